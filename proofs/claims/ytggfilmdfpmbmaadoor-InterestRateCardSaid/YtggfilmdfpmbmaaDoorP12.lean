/-
  Steps and laws behind the statement that the claim's last text proves: the words of the walks, the walks of the Go functions (printed by a program of this session's own, then shortened by one), and what they compute. Conditions: stated at each theorem.
-/
import Derived.Test.YtggfilmdfpmbmaaDoorP9
import Derived.Test.YtggfilmdfpmbmaaDoorP5
import Derived.Test.YtggfilmdfpmbmaaDoorP4
import Derived.Test.YtggfilmdfpmbmaaDoorP0
section
namespace Go.Proofs.YtggfilmdfpmbmaaDoor.QN
open Go.RowKit Go.Proofs.YtggfilmdfpmbmaaDoorW.PrintWords Go.Proofs.YtggfilmdfpmbmaaDoorW.PrintLast Go.Proofs.YtggfilmdfpmbmaaDoorW.PrintMore
attribute [local go_sem] max2_int min2_int max_two min_two max_three min_three max_four min_four   -- for this text's walks alone
set_option linter.unusedVariables false
set_option linter.unusedSimpArgs false
attribute [local go_sem high] eqA29
def I1Rate.l0 : Nat → Int → List (S54) → Int → Int → Bool → ByteArray → ByteArray → Option (Bool × ByteArray × ByteArray × Int)
 | 0, _, _, _, _, _, _, _ => none
 | k + 1, x1, x21, x22, x23, x842000, x842001, x842002 => if x23 < x22 then (if 0 ≤ x23 then (if x23 < (x21.length : Int) then (if ((rd_T54 x21 x23).f0) ≤ x1 then (I1Rate.l0 k x1 x21 x22 (wrap64 (x23 + 1)) ((rd_T54 x21 x23).f1.f0) ((rd_T54 x21 x23).f1.f1) ((rd_T54 x21 x23).f1.f2)) else (I1Rate.l0 k x1 x21 x22 (wrap64 (x23 + 1)) x842000 x842001 x842002)) else (none)) else (none)) else ((Q1Add.f k x842000 x842001 x842002 false (⟨#[]⟩ : ByteArray) (⟨#[]⟩ : ByteArray)).bind fun bt844 => (some (bt844.1, bt844.2.1, bt844.2.2, 0)))
def I1Rate.f (k : Nat) (l0 : List (S54)) (a1 : Int) : Option (Bool × ByteArray × ByteArray × Int) := (I1Check.f k l0).bind fun t839 => (if t839 = 0 then ((I1isDay.f a1).bind fun t840 => (if t840 = true then (I1Rate.l0 k a1 l0 (l0.length : Int) 0 false (⟨#[]⟩ : ByteArray) (⟨#[]⟩ : ByteArray)) else (some (false, (⟨#[]⟩ : ByteArray), (⟨#[]⟩ : ByteArray), 1)))) else (some (false, (⟨#[]⟩ : ByteArray), (⟨#[]⟩ : ByteArray), t839)))
set_option maxHeartbeats 8000000 in
set_option maxRecDepth 100000 in
theorem I1Rate.calls (k : Nat) (A0 : Option Addr) (c0 : Nat) (l0 : List (S54)) (a1 : Int) (r1 : Bool) (r2 : ByteArray) (r3 : ByteArray) (r4 : Int) (w : World) (hr0 : Kd.C k54 w A0 l0.length l0) (hc0 : l0.length ≤ c0) (h : I1Rate.f k l0 a1 = some (r1, r2, r3, r4)) :
 Calls Tryd.prog 22 #[.slice A0 l0.length c0, .int .i64 a1] w fun e w' => e = .returned (.tuple #[.agg #[.bool r1, .string r2, .string r3], .int .i64 r4]) ∧ Below w.heap.size w w' := by
 have hu29 := Tryd.underlying29
 have hu54 := Tryd.underlying54
 have HR0 := Aside0.mk hr0
 have HC0 := Aside0.mk hc0
 clear hr0 hc0
 have HB := Aside0.mk (Below.refl w.heap.size w)
 have H : ((I1Check.f k l0).bind fun t839 => (if t839 = 0 then ((I1isDay.f a1).bind fun t840 => (if t840 = true then (I1Rate.l0 k a1 l0 (l0.length : Int) 0 false (⟨#[]⟩ : ByteArray) (⟨#[]⟩ : ByteArray)) else (some (false, (⟨#[]⟩ : ByteArray), (⟨#[]⟩ : ByteArray), 1)))) else (some (false, (⟨#[]⟩ : ByteArray), (⟨#[]⟩ : ByteArray), t839)))) = some (r1, r2, r3, r4) := h
 clear h
 replace H := bS H
 obtain ⟨t839, A3, H⟩ := H
 by_cases c4 : t839 = 0
 ·rw [if_pos c4] at H
  have c4b0 := beq_iff_eq.mpr c4
  have c4b1 : (t839 != 0) = false := bne_eq_false_iff_eq.mpr c4
  clear c4
  replace H := bS H
  obtain ⟨t840, A5, H⟩ := H
  by_cases c6 : t840 = true
  ·subst c6
   have H1 : (I1Rate.l0 k a1 l0 (l0.length : Int) 0 false (⟨#[]⟩ : ByteArray) (⟨#[]⟩ : ByteArray)) = some (r1, r2, r3, r4) := by rw [if_pos rfl] at H; exact H
   clear H
   have H := H1
   clear H1
   have H' := Aside0.mk H
   clear H
   go_enter Tryd.func22, Tryd.ntmps22
   go_wp2_with (first | (refine box_evA 4 #[.bool false, .string (⟨#[]⟩ : ByteArray), .string (⟨#[]⟩ : ByteArray)] 29 ?_; intro gb838 hg w7 hbox hb; obtain ⟨n0_, n1_, n2_, n3_⟩ := bx4 w hbox hb hg; revert n0_ n1_ n2_ n3_; clear HB; intro HB BK838 GW838 GE838; clear hb hbox hg) | (refine goesLA 11 Tryd.func12 #[.slice A0 l0.length c0] ?_; (with_reducible refine (I1Check.calls k _ _ l0 t839 _ ?side1 ?side2 A3.out).mono ?_); (case side1 => exact sC (Kd.C_below HR0.out HB.out)); (case side2 => exact HC0.out); rintro e w8 ⟨rfl, hb⟩; refine ⟨_, rfl, ?_⟩; have n0_ := bB BK838 hb; have n1_ := sB hb; revert n0_ n1_; clear BK838 HB; intro BK838 HB; (try clear hb); (try clear hb2); (try clear hk); (try clear hi)) | (refine goesLA 17 Tryd.func29 #[.int .i64 a1] ?_; (with_reducible refine (I1isDay.calls a1 true _ A5.out).mono ?_); rintro e w' ⟨rfl, ⟨nd, rfl⟩⟩; refine ⟨_, rfl, ?_⟩; (try (rw [drewN_self w8]; generalize hq_ : World.drewN w8 _ = w8; have n0_ : Aside0 (w8.heap[gb838]? = some (.cells #[.bool false, .string (⟨#[]⟩ : ByteArray), .string (⟨#[]⟩ : ByteArray)] 29 (0, 0))) := ⟨by rw [← hq_]; exact (by (with_reducible repeat (first | refine blk_drewN ?_ _ | refine blk_drew ?_ | refine blk_alloc ?_ _)); exact BK838.out)⟩; have n1_ : Aside0 (Below w.heap.size w w8) := ⟨by rw [← hq_]; exact zH⟩; clear BK838 HB hq_; have BK838 := n0_; have HB := n1_; clear n0_ n1_))) | (refine box_evA 7 #[.bool false, .string (⟨#[]⟩ : ByteArray), .string (⟨#[]⟩ : ByteArray)] 29 ?_; intro gb841 hg w9 hbox hb; have n0_ := bB BK838 hb; have n1_ := sB hb; have n2_ := Aside0.mk (hbox); have n3_ := wE w hg; have n4_ := wE w hg; have n5_ := Aside0.mk (nL BK838 hg); have n6_ := Aside0.mk (nG BK838 hg); revert n0_ n1_ n2_ n3_ n4_ n5_ n6_; clear BK838 HB; intro BK838 HB BK841 GW841 GE841 NB838_841 NB841_838; clear hb hbox hg; have hnb10 := NB841_838.out; have hnc10 := NB838_841.out; have hcz11_0 := cB BK841 0 (.bool false); have hcz11_1 := cB BK841 1 (.string (⟨#[]⟩ : ByteArray)); have hcz11_2 := cB BK841 2 (.string (⟨#[]⟩ : ByteArray)); have hfz11_0 := fB BK841 0; have hfz11_1 := fB BK841 1; have hfz11_2 := fB BK841 2))
   go_loopg [23] k (fun kq v23 w' => ∃ (x23_1 : Int) (x842000_1 : Bool) (x842001_1 : ByteArray) (x842002_1 : ByteArray), v23 = .int .i64 x23_1 ∧ Aside0 (I1Rate.l0 kq a1 l0 (l0.length : Int) x23_1 x842000_1 x842001_1 x842002_1 = some (r1, r2, r3, r4)) ∧ Aside0 (kq ≤ k) ∧ Aside0 (w'.heap[gb838]? = some (.cells #[.bool false, .string (⟨#[]⟩ : ByteArray), .string (⟨#[]⟩ : ByteArray)] 29 (0, 0))) ∧ Aside0 (w'.heap[gb841]? = some (.cells #[.bool x842000_1, .string x842001_1, .string x842002_1] 29 (0, 0))) ∧ Aside0 (Below w.heap.size w w'))
   case atStart => exact ⟨(0), (false), ((⟨#[]⟩ : ByteArray)), ((⟨#[]⟩ : ByteArray)), zq1, H', ⟨Nat.le_refl _⟩, ⟨bC BK838⟩, ⟨bC BK841⟩, ⟨zH⟩⟩
   case round =>
    clear H'
    obtain ⟨x23_1, x842000_1, x842001_1, x842002_1, rfl, HA, HK1, BK838, BK841, HB⟩ := hrel
    cases gk with
    | zero => exact absurd HA.out (by simp [I1Rate.l0])
    | succ k1 =>
     have H := HA.out
     clear HA
     simp only [I1Rate.l0] at H
     by_cases c12 : x23_1 < (l0.length : Int)
     ·rw [if_pos c12] at H
      have c12b0 := decide_eq_true c12
      clear c12
      replace H := iteD H
      obtain ⟨c13b0, H⟩ := H
      replace H := iteD H
      obtain ⟨c14b0, H⟩ := H
      by_cases c15 : ((rd_T54 l0 x23_1).f0) ≤ a1
      ·rw [if_pos c15] at H
       have c15b0 := decide_eq_true c15
       clear c15
       have H' := Aside0.mk H
       clear H
       have p842 : 0 ≤ (x23_1 : Int) := of_decide_eq_true zq0
       have q842 : x23_1 < (l0.length : Int) := of_decide_eq_true zq0
       obtain ⟨ad842, e842, hx842_0, hx842_1, hx842_2, hx842_3⟩ := at_T54 HR0.out x23_1 p842 q842
       cases e842
       (try replace hx842_0 := (HB.out.cell (World.block_lt_of_cell? w _ hx842_0)).trans hx842_0)
       (try replace hx842_1 := (HB.out.cell (World.block_lt_of_cell? w _ hx842_1)).trans hx842_1)
       (try replace hx842_2 := (HB.out.cell (World.block_lt_of_cell? w _ hx842_2)).trans hx842_2)
       (try replace hx842_3 := (HB.out.cell (World.block_lt_of_cell? w _ hx842_3)).trans hx842_3)
       replace p842 := eq_true p842
       replace q842 := eq_true q842
       go_wp2_with (first | (refine box_evA 9 #[.int .i64 0, .bool false, .string (⟨#[]⟩ : ByteArray), .string (⟨#[]⟩ : ByteArray)] 54 ?_; intro gb843 hg w16 hbox hb; have n0_ := bB BK838 hb; have n1_ := bB BK841 hb; have n2_ := sB hb; have n3_ := Aside0.mk (hbox); have n4_ := wE w hg; have n5_ := wE w hg; have n6_ := Aside0.mk (nL BK838 hg); have n7_ := Aside0.mk (nG BK838 hg); have n8_ := Aside0.mk (nL BK841 hg); have n9_ := Aside0.mk (nG BK841 hg); revert n0_ n1_ n2_ n3_ n4_ n5_ n6_ n7_ n8_ n9_; clear BK838 BK841 HB; intro BK838 BK841 HB BK843 GW843 GE843 NB838_843 NB843_838 NB841_843 NB843_841; clear hb hbox hg; have hnb17 := NB843_838.out; have hnc17 := NB838_843.out; have hnb18 := NB843_841.out; have hnc18 := NB841_843.out; have hcz19_0 := cB BK843 0 (.int .i64 0); have hcz19_1 := cB BK843 1 (.bool false); have hcz19_2 := cB BK843 2 (.string (⟨#[]⟩ : ByteArray)); have hcz19_3 := cB BK843 3 (.string (⟨#[]⟩ : ByteArray)); have hfz19_0 := fB BK843 0; have hfz19_1 := fB BK843 1; have hfz19_2 := fB BK843 2; have hfz19_3 := fB BK843 3; have hnb20 := NB841_838.out; have hnc20 := NB838_841.out; have hcz21_0 := cB BK841 0 (.bool x842000_1); have hcz21_1 := cB BK841 1 (.string x842001_1); have hcz21_2 := cB BK841 2 (.string x842002_1); have hfz21_0 := fB BK841 0; have hfz21_1 := fB BK841 1; have hfz21_2 := fB BK841 2))
       go_roundg k1
       case measure => have := HK1.out; omega
       case rel => exact ⟨(wrap64 (x23_1 + 1)), ((rd_T54 l0 x23_1).f1.f0), ((rd_T54 l0 x23_1).f1.f1), ((rd_T54 l0 x23_1).f1.f2), zq1, H', ⟨by have := HK1.out; omega⟩, ⟨bC BK838⟩, ⟨bC BK841⟩, ⟨zH⟩⟩
      ·rw [if_neg c15] at H
       have c15b0 := decide_eq_false c15
       clear c15
       have H' := Aside0.mk H
       clear H
       have p842 : 0 ≤ (x23_1 : Int) := of_decide_eq_true zq0
       have q842 : x23_1 < (l0.length : Int) := of_decide_eq_true zq0
       obtain ⟨ad842, e842, hx842_0, hx842_1, hx842_2, hx842_3⟩ := at_T54 HR0.out x23_1 p842 q842
       cases e842
       (try replace hx842_0 := (HB.out.cell (World.block_lt_of_cell? w _ hx842_0)).trans hx842_0)
       (try replace hx842_1 := (HB.out.cell (World.block_lt_of_cell? w _ hx842_1)).trans hx842_1)
       (try replace hx842_2 := (HB.out.cell (World.block_lt_of_cell? w _ hx842_2)).trans hx842_2)
       (try replace hx842_3 := (HB.out.cell (World.block_lt_of_cell? w _ hx842_3)).trans hx842_3)
       replace p842 := eq_true p842
       replace q842 := eq_true q842
       go_wp2_with (first | (refine box_evA 9 #[.int .i64 0, .bool false, .string (⟨#[]⟩ : ByteArray), .string (⟨#[]⟩ : ByteArray)] 54 ?_; intro gb843 hg w22 hbox hb; have n0_ := bB BK838 hb; have n1_ := bB BK841 hb; have n2_ := sB hb; have n3_ := Aside0.mk (hbox); have n4_ := wE w hg; have n5_ := wE w hg; have n6_ := Aside0.mk (nL BK838 hg); have n7_ := Aside0.mk (nG BK838 hg); have n8_ := Aside0.mk (nL BK841 hg); have n9_ := Aside0.mk (nG BK841 hg); revert n0_ n1_ n2_ n3_ n4_ n5_ n6_ n7_ n8_ n9_; clear BK838 BK841 HB; intro BK838 BK841 HB BK843 GW843 GE843 NB838_843 NB843_838 NB841_843 NB843_841; clear hb hbox hg; have hnb23 := NB843_838.out; have hnc23 := NB838_843.out; have hnb24 := NB843_841.out; have hnc24 := NB841_843.out; have hcz25_0 := cB BK843 0 (.int .i64 0); have hcz25_1 := cB BK843 1 (.bool false); have hcz25_2 := cB BK843 2 (.string (⟨#[]⟩ : ByteArray)); have hcz25_3 := cB BK843 3 (.string (⟨#[]⟩ : ByteArray)); have hfz25_0 := fB BK843 0; have hfz25_1 := fB BK843 1; have hfz25_2 := fB BK843 2; have hfz25_3 := fB BK843 3))
       go_roundg k1
       case measure => have := HK1.out; omega
       case rel => exact ⟨(wrap64 (x23_1 + 1)), (x842000_1), (x842001_1), (x842002_1), zq1, H', ⟨by have := HK1.out; omega⟩, ⟨bC BK838⟩, ⟨bC BK841⟩, ⟨zH⟩⟩
     ·rw [if_neg c12] at H
      have c12b0 := decide_eq_false c12
      clear c12
      replace H := bS H
      obtain ⟨⟨t844, t845, t846⟩, A26, H⟩ := H
      (try dsimp only at H)
      simp only [Option.some.injEq, Prod.mk.injEq] at H
      obtain ⟨rfl, rfl, rfl, rfl⟩ := H
      have hnb27 := NB841_838.out
      have hnc27 := NB838_841.out
      have hcz28_0 := cB BK841 0 (.bool x842000_1)
      have hcz28_1 := cB BK841 1 (.string x842001_1)
      have hcz28_2 := cB BK841 2 (.string x842002_1)
      have hfz28_0 := fB BK841 0
      have hfz28_1 := fB BK841 1
      have hfz28_2 := fB BK841 2
      go_wp2_with (first | (refine goesLA 36 Tryd.func20 #[.agg #[.bool x842000_1, .string x842001_1, .string x842002_1], .agg #[.bool false, .string (⟨#[]⟩ : ByteArray), .string (⟨#[]⟩ : ByteArray)]] ?_; (with_reducible refine (Q1Add.calls k1 x842000_1 x842001_1 x842002_1 false (⟨#[]⟩ : ByteArray) (⟨#[]⟩ : ByteArray) t844 t845 t846 _ A26.out).mono ?_); rintro e w29 ⟨rfl, hb⟩; refine ⟨_, rfl, ?_⟩; have n0_ := bB BK838 hb; have n1_ := bB BK841 hb; have n2_ := sB hb; revert n0_ n1_ n2_; clear BK838 BK841 HB; intro BK838 BK841 HB; (try clear hb); (try clear hb2); (try clear hk); (try clear hi); have hcz30_0 := cB BK838 0 (.bool false); have hcz30_1 := cB BK838 1 (.string (⟨#[]⟩ : ByteArray)); have hcz30_2 := cB BK838 2 (.string (⟨#[]⟩ : ByteArray)); have hfz30_0 := fB BK838 0; have hfz30_1 := fB BK838 1; have hfz30_2 := fB BK838 2))
      refine bodyPost_ret (results_ct rfl _ _ gb838 29 #[.bool t844, .string t845, .string t846] (0, 0) _ rfl (bC BK838) Tryd.underlying29 rfl (by kernel_rfl)) rfl ?_
      exact ⟨zE, zH⟩
  ·replace c6 := Bool.eq_false_iff.mpr c6
   subst c6
   have H1 : (some (false, (⟨#[]⟩ : ByteArray), (⟨#[]⟩ : ByteArray), 1)) = some (r1, r2, r3, r4) := by rw [if_neg (show ¬ (false = true) by decide)] at H; exact H
   clear H
   have H := H1
   clear H1
   simp only [Option.some.injEq, Prod.mk.injEq] at H
   obtain ⟨rfl, rfl, rfl, rfl⟩ := H
   go_enter Tryd.func22, Tryd.ntmps22
   go_wp2_with (first | (refine box_evA 4 #[.bool false, .string (⟨#[]⟩ : ByteArray), .string (⟨#[]⟩ : ByteArray)] 29 ?_; intro gb838 hg w31 hbox hb; obtain ⟨n0_, n1_, n2_, n3_⟩ := bx4 w hbox hb hg; revert n0_ n1_ n2_ n3_; clear HB; intro HB BK838 GW838 GE838; clear hb hbox hg) | (refine goesLA 11 Tryd.func12 #[.slice A0 l0.length c0] ?_; (with_reducible refine (I1Check.calls k _ _ l0 t839 _ ?side1 ?side2 A3.out).mono ?_); (case side1 => exact sC (Kd.C_below HR0.out HB.out)); (case side2 => exact HC0.out); rintro e w32 ⟨rfl, hb⟩; refine ⟨_, rfl, ?_⟩; have n0_ := bB BK838 hb; have n1_ := sB hb; revert n0_ n1_; clear BK838 HB; intro BK838 HB; (try clear hb); (try clear hb2); (try clear hk); (try clear hi)) | (refine goesLA 17 Tryd.func29 #[.int .i64 a1] ?_; (with_reducible refine (I1isDay.calls a1 false _ A5.out).mono ?_); rintro e w' ⟨rfl, ⟨nd, rfl⟩⟩; refine ⟨_, rfl, ?_⟩; (try (rw [drewN_self w32]; generalize hq_ : World.drewN w32 _ = w32; have n0_ : Aside0 (w32.heap[gb838]? = some (.cells #[.bool false, .string (⟨#[]⟩ : ByteArray), .string (⟨#[]⟩ : ByteArray)] 29 (0, 0))) := ⟨by rw [← hq_]; exact (by (with_reducible repeat (first | refine blk_drewN ?_ _ | refine blk_drew ?_ | refine blk_alloc ?_ _)); exact BK838.out)⟩; have n1_ : Aside0 (Below w.heap.size w w32) := ⟨by rw [← hq_]; exact zH⟩; clear BK838 HB hq_; have BK838 := n0_; have HB := n1_; clear n0_ n1_)); have hcz33_0 := cB BK838 0 (.bool false); have hcz33_1 := cB BK838 1 (.string (⟨#[]⟩ : ByteArray)); have hcz33_2 := cB BK838 2 (.string (⟨#[]⟩ : ByteArray)); have hfz33_0 := fB BK838 0; have hfz33_1 := fB BK838 1; have hfz33_2 := fB BK838 2))
   refine bodyPost_ret (results_ct rfl _ _ gb838 29 #[.bool false, .string (⟨#[]⟩ : ByteArray), .string (⟨#[]⟩ : ByteArray)] (0, 0) _ rfl (bC BK838) Tryd.underlying29 rfl (by kernel_rfl)) rfl ?_
   exact ⟨zE, zH⟩
 ·rw [if_neg c4] at H
  have c4b0 := beq_eq_false_iff_ne.mpr c4
  have c4b1 := bne_iff_ne.mpr c4
  simp only [Option.some.injEq, Prod.mk.injEq] at H
  obtain ⟨rfl, rfl, rfl, rfl⟩ := H
  go_enter Tryd.func22, Tryd.ntmps22
  go_wp2_with (first | (refine box_evA 4 #[.bool false, .string (⟨#[]⟩ : ByteArray), .string (⟨#[]⟩ : ByteArray)] 29 ?_; intro gb838 hg w34 hbox hb; obtain ⟨n0_, n1_, n2_, n3_⟩ := bx4 w hbox hb hg; revert n0_ n1_ n2_ n3_; clear HB; intro HB BK838 GW838 GE838; clear hb hbox hg) | (refine goesLA 11 Tryd.func12 #[.slice A0 l0.length c0] ?_; (with_reducible refine (I1Check.calls k _ _ l0 t839 _ ?side1 ?side2 A3.out).mono ?_); (case side1 => exact sC (Kd.C_below HR0.out HB.out)); (case side2 => exact HC0.out); rintro e w35 ⟨rfl, hb⟩; refine ⟨_, rfl, ?_⟩; have n0_ := bB BK838 hb; have n1_ := sB hb; revert n0_ n1_; clear BK838 HB; intro BK838 HB; (try clear hb); (try clear hb2); (try clear hk); (try clear hi); have hcz36_0 := cB BK838 0 (.bool false); have hcz36_1 := cB BK838 1 (.string (⟨#[]⟩ : ByteArray)); have hcz36_2 := cB BK838 2 (.string (⟨#[]⟩ : ByteArray)); have hfz36_0 := fB BK838 0; have hfz36_1 := fB BK838 1; have hfz36_2 := fB BK838 2))
  refine bodyPost_ret (results_ct rfl _ _ gb838 29 #[.bool false, .string (⟨#[]⟩ : ByteArray), .string (⟨#[]⟩ : ByteArray)] (0, 0) _ rfl (bC BK838) Tryd.underlying29 rfl (by kernel_rfl)) rfl ?_
  exact ⟨zE, zH⟩
def R1IsDay.f (a0 : Int) : Option (Bool) := if a0 ≥ 0 then (some (decide (a0 ≤ 1048576))) else (some false)
set_option maxHeartbeats 8000000 in
set_option maxRecDepth 100000 in
theorem R1IsDay.calls (a0 : Int) (r : Bool) (w : World) (h : R1IsDay.f a0 = some r) :
 Calls Tryd.prog 31 #[.int .i64 a0] w fun e w' => e = .returned (.bool r) ∧ Drawn0 w w' := by
 have H : (if a0 ≥ 0 then (some (decide (a0 ≤ 1048576))) else (some false)) = some r := h
 clear h
 by_cases c2 : a0 ≥ 0
 ·rw [if_pos c2] at H
  have c2b0 := decide_eq_true c2
  clear c2
  obtain rfl := Option.some.inj H
  go_enter Tryd.func31, Tryd.ntmps31
  go_wp2
  go_ret
  exact ⟨by first | rfl | (simp; done) | (simp [*]; done), by repeat (first | exact Drawn0.refl _ | apply Drawn0.step)⟩
 ·rw [if_neg c2] at H
  have c2b0 := decide_eq_false c2
  clear c2
  obtain rfl := Option.some.inj H
  go_enter Tryd.func31, Tryd.ntmps31
  go_wp2
  go_ret
  exact ⟨by first | rfl | (simp; done) | (simp [*]; done), by repeat (first | exact Drawn0.refl _ | apply Drawn0.step)⟩
mutual
def R1CheckSteps.l0 : Nat → List (S54) → Int → Option (Int)
 | 0, _, _ => none
 | k + 1, x0, x3 => if x3 < (x0.length : Int) then (if 0 ≤ x3 then ((R1IsDay.f ((rd_T54 x0 x3).f0)).bind fun t848 => (if t848 = true then (if x3 > 0 then (if 0 ≤ (wrap64 (x3 - 1)) then (if (wrap64 (x3 - 1)) < (x0.length : Int) then (R1CheckSteps.j1 k x0 x3 (decide (((rd_T54 x0 x3).f0) ≤ ((rd_T54 x0 (wrap64 (x3 - 1))).f0)))) else (none)) else (none)) else (R1CheckSteps.j1 k x0 x3 false)) else (some 1))) else (none)) else (some 0)
def R1CheckSteps.j1 : Nat → List (S54) → Int → Bool → Option (Int)
 | 0, _, _, _ => none
 | k + 1, x0, x3, x21 => if x21 = true then (some 15) else (if 0 ≤ x3 then (if x3 < (x0.length : Int) then ((R1Sign.f k ((rd_T54 x0 x3).f1.f0) ((rd_T54 x0 x3).f1.f1) ((rd_T54 x0 x3).f1.f2)).bind fun t852 => (if t852 < 0 then (some 7) else (R1CheckSteps.l0 k x0 (wrap64 (x3 + 1))))) else (none)) else (none))
end
def R1CheckSteps.f (k : Nat) (l0 : List (S54)) : Option (Int) := if (l0.length : Int) > 64 then (some 2) else (R1CheckSteps.l0 k l0 0)
set_option maxHeartbeats 8000000 in
set_option maxRecDepth 100000 in
theorem R1CheckSteps.calls (k : Nat) (A0 : Option Addr) (c0 : Nat) (l0 : List (S54)) (r : Int) (w : World) (hr0 : Kd.C k54 w A0 l0.length l0) (hc0 : l0.length ≤ c0) (h : R1CheckSteps.f k l0 = some r) :
 Calls Tryd.prog 13 #[.slice A0 l0.length c0] w fun e w' => e = .returned (.int .i64 r) ∧ Below w.heap.size w w' := by
 have hu29 := Tryd.underlying29
 have HR0 := Aside0.mk hr0
 have HC0 := Aside0.mk hc0
 clear hr0 hc0
 have HB := Aside0.mk (Below.refl w.heap.size w)
 have H : (if (l0.length : Int) > 64 then (some 2) else (R1CheckSteps.l0 k l0 0)) = some r := h
 clear h
 by_cases c2 : (l0.length : Int) > 64
 ·rw [if_pos c2] at H
  have c2b0 := decide_eq_true c2
  have c2b1 : decide (64 < l0.length) = true := decide_eq_true (by omega)
  clear c2
  obtain rfl := Option.some.inj H
  go_enter Tryd.func13, Tryd.ntmps13
  go_wp2
  repeat (go_quiet (fail); try go_wp2)
  go_ret
  exact ⟨zE, zH⟩
 ·rw [if_neg c2] at H
  have c2b0 := decide_eq_false c2
  have c2b1 : decide (64 < l0.length) = false := decide_eq_false (by omega)
  clear c2
  have H' := Aside0.mk H
  clear H
  go_enter Tryd.func13, Tryd.ntmps13
  go_wp2
  repeat (go_quiet (fail); try go_wp2)
  go_loopg [3] k (fun kq v3 w' => ∃ (x3_1 : Int), v3 = .int .i64 x3_1 ∧ Aside0 (R1CheckSteps.l0 kq l0 x3_1 = some r) ∧ Aside0 (kq ≤ k) ∧ Aside0 (Below w.heap.size w w'))
  case atStart => exact ⟨(0), zq1, H', ⟨Nat.le_refl _⟩, ⟨zH⟩⟩
  case round =>
   clear H'
   obtain ⟨x3_1, rfl, HA, HK1, HB⟩ := hrel
   cases gk with
   | zero => exact absurd HA.out (by simp [R1CheckSteps.l0])
   | succ k1 =>
    have H := HA.out
    clear HA
    simp only [R1CheckSteps.l0] at H
    by_cases c3 : x3_1 < (l0.length : Int)
    ·rw [if_pos c3] at H
     have c3b0 := decide_eq_true c3
     clear c3
     replace H := iteD H
     obtain ⟨c4b0, H⟩ := H
     replace H := bS H
     obtain ⟨t848, A5, H⟩ := H
     by_cases c6 : t848 = true
     ·subst c6
      have H1 : (if x3_1 > 0 then (if 0 ≤ (wrap64 (x3_1 - 1)) then (if (wrap64 (x3_1 - 1)) < (l0.length : Int) then (R1CheckSteps.j1 k1 l0 x3_1 (decide (((rd_T54 l0 x3_1).f0) ≤ ((rd_T54 l0 (wrap64 (x3_1 - 1))).f0)))) else (none)) else (none)) else (R1CheckSteps.j1 k1 l0 x3_1 false)) = some r := by rw [if_pos rfl] at H; exact H
      clear H
      have H := H1
      clear H1
      have HC7 := Aside0.mk H
      clear H
      have p847 : 0 ≤ (x3_1 : Int) := of_decide_eq_true zq0
      have q847 : x3_1 < (l0.length : Int) := of_decide_eq_true zq0
      obtain ⟨ad847, e847, hx847_0, hx847_1, hx847_2, hx847_3⟩ := at_T54 HR0.out x3_1 p847 q847
      cases e847
      (try replace hx847_0 := (HB.out.cell (World.block_lt_of_cell? w _ hx847_0)).trans hx847_0)
      (try replace hx847_1 := (HB.out.cell (World.block_lt_of_cell? w _ hx847_1)).trans hx847_1)
      (try replace hx847_2 := (HB.out.cell (World.block_lt_of_cell? w _ hx847_2)).trans hx847_2)
      (try replace hx847_3 := (HB.out.cell (World.block_lt_of_cell? w _ hx847_3)).trans hx847_3)
      replace p847 := eq_true p847
      replace q847 := eq_true q847
      go_upto_region 8 with (first | (go_at_call 31; (with_reducible refine (R1IsDay.calls ((rd_T54 l0 x3_1).f0) true _ A5.out).mono ?_); rintro e w' ⟨rfl, ⟨nd, rfl⟩⟩; (try first | exact ⟨rfl, _, World.drewN_drewN _ _ _⟩ | exact ⟨rfl, _, Eq.trans (World.drewN_drewN _ _ _) (congrArg (World.drewN _) (Nat.add_assoc _ _ _))⟩)))
      repeat (go_quiet (first | (go_at_call 31; (with_reducible refine (R1IsDay.calls ((rd_T54 l0 x3_1).f0) true _ A5.out).mono ?_); rintro e w' ⟨rfl, ⟨nd, rfl⟩⟩; (try first | exact ⟨rfl, _, World.drewN_drewN _ _ _⟩ | exact ⟨rfl, _, Eq.trans (World.drewN_drewN _ _ _) (congrArg (World.drewN _) (Nat.add_assoc _ _ _))⟩))); go_upto_region 8 with (first | (go_at_call 31; (with_reducible refine (R1IsDay.calls ((rd_T54 l0 x3_1).f0) true _ A5.out).mono ?_); rintro e w' ⟨rfl, ⟨nd, rfl⟩⟩; (try first | exact ⟨rfl, _, World.drewN_drewN _ _ _⟩ | exact ⟨rfl, _, Eq.trans (World.drewN_drewN _ _ _) (congrArg (World.drewN _) (Nat.add_assoc _ _ _))⟩))))
      (try simp only [Act.put, List.setIfInBounds_toArray, List.set_cons_zero, List.set_cons_succ])
      go_cut [21] (fun v21 wc => ∃ (kq : Nat) (x21_6 : Bool), v21 = .bool x21_6 ∧ Aside0 (R1CheckSteps.j1 kq l0 x3_1 x21_6 = some r) ∧ Aside0 (kq ≤ k1) ∧ Aside0 (Below w.heap.size w wc))
      case first =>
       have H := HC7.out
       clear HC7
       by_cases c8 : x3_1 > 0
       ·rw [if_pos c8] at H
        have c8b0 := decide_eq_true c8
        clear c8
        (first | rw [c8b0] | (simp only [i64_w, i32_w]; rw [c8b0]) | rw [c8b1] | skip)
        obtain ⟨ji9, hji9, hji9w⟩ := jI (x3_1 - 1)
        first | rw [hji9] at H | simp only [hji9] at H
        replace H := iteD H
        obtain ⟨c10b0, H⟩ := H
        replace H := iteD H
        obtain ⟨c11b0, H⟩ := H
        have H' := Aside0.mk H
        clear H
        have p849 : 0 ≤ (x3_1 : Int) := of_decide_eq_true zq0
        have q849 : x3_1 < (l0.length : Int) := of_decide_eq_true zq0
        obtain ⟨ad849, e849, hx849_0, hx849_1, hx849_2, hx849_3⟩ := at_T54 HR0.out x3_1 p849 q849
        obtain rfl : ad847 = ad849 := (by injection e849)
        (try replace hx849_0 := (HB.out.cell (World.block_lt_of_cell? w _ hx849_0)).trans hx849_0)
        (try replace hx849_1 := (HB.out.cell (World.block_lt_of_cell? w _ hx849_1)).trans hx849_1)
        (try replace hx849_2 := (HB.out.cell (World.block_lt_of_cell? w _ hx849_2)).trans hx849_2)
        (try replace hx849_3 := (HB.out.cell (World.block_lt_of_cell? w _ hx849_3)).trans hx849_3)
        replace p849 := eq_true p849
        replace q849 := eq_true q849
        have p850 : 0 ≤ ((ji9) : Int) := of_decide_eq_true zq0
        have q850 : (ji9) < (l0.length : Int) := of_decide_eq_true zq0
        obtain ⟨ad850, e850, hx850_0, hx850_1, hx850_2, hx850_3⟩ := at_T54 HR0.out (ji9) p850 q850
        obtain rfl : ad847 = ad850 := (by injection e850)
        (try replace hx850_0 := (HB.out.cell (World.block_lt_of_cell? w _ hx850_0)).trans hx850_0)
        (try replace hx850_1 := (HB.out.cell (World.block_lt_of_cell? w _ hx850_1)).trans hx850_1)
        (try replace hx850_2 := (HB.out.cell (World.block_lt_of_cell? w _ hx850_2)).trans hx850_2)
        (try replace hx850_3 := (HB.out.cell (World.block_lt_of_cell? w _ hx850_3)).trans hx850_3)
        replace p850 := eq_true p850
        replace q850 := eq_true q850
        go_wp2
        repeat (go_quiet (fail); try go_wp2)
        go_meet
        case rel => exact ⟨_, (decide (((rd_T54 l0 x3_1).f0) ≤ ((rd_T54 l0 (ji9)).f0))), (by first | rfl | (simp; done) | (simp only [← hji9] <;> (first | rfl | simp)) | (simp [*]; done)), H', ⟨by have := HK1.out; first | omega | exact Nat.le_refl _⟩, ⟨zH⟩⟩
       ·rw [if_neg c8] at H
        have c8b0 := decide_eq_false c8
        clear c8
        (first | rw [c8b0] | (simp only [i64_w, i32_w]; rw [c8b0]) | rw [c8b1] | skip)
        have H' := Aside0.mk H
        clear H
        go_wp2
        repeat (go_quiet (fail); try go_wp2)
        go_meet
        case rel => exact ⟨_, (false), zq1, H', ⟨by have := HK1.out; first | omega | exact Nat.le_refl _⟩, ⟨zH⟩⟩
      case rest =>
       clear HC7
       obtain ⟨kq, x21_6, rfl, HA, HJ6, HB⟩ := hcut
       cases kq with
       | zero => exact absurd HA.out (by simp [R1CheckSteps.j1])
       | succ kj6 =>
        have H := HA.out
        clear HA
        simp only [R1CheckSteps.j1] at H
        by_cases c12 : x21_6 = true
        ·subst c12
         have H1 : (some 15) = some r := by rw [if_pos rfl] at H; exact H
         clear H
         have H := H1
         clear H1
         obtain rfl := Option.some.inj H
         go_wp2
         repeat (go_quiet (fail); try go_wp2)
         go_ret
         exact ⟨zE, zH⟩
        ·replace c12 := Bool.eq_false_iff.mpr c12
         subst c12
         have H1 : (if 0 ≤ x3_1 then (if x3_1 < (l0.length : Int) then ((R1Sign.f kj6 ((rd_T54 l0 x3_1).f1.f0) ((rd_T54 l0 x3_1).f1.f1) ((rd_T54 l0 x3_1).f1.f2)).bind fun t852 => (if t852 < 0 then (some 7) else (R1CheckSteps.l0 kj6 l0 (wrap64 (x3_1 + 1))))) else (none)) else (none)) = some r := by rw [if_neg (show ¬ (false = true) by decide)] at H; exact H
         clear H
         have H := H1
         clear H1
         replace H := iteD H
         obtain ⟨c13b0, H⟩ := H
         replace H := iteD H
         obtain ⟨c14b0, H⟩ := H
         replace H := bS H
         obtain ⟨t852, A15, H⟩ := H
         by_cases c16 : t852 < 0
         ·rw [if_pos c16] at H
          have c16b0 := decide_eq_true c16
          clear c16
          obtain rfl := Option.some.inj H
          have p851 : 0 ≤ (x3_1 : Int) := of_decide_eq_true zq0
          have q851 : x3_1 < (l0.length : Int) := of_decide_eq_true zq0
          obtain ⟨ad851, e851, hx851_0, hx851_1, hx851_2, hx851_3⟩ := at_T54 HR0.out x3_1 p851 q851
          obtain rfl : ad847 = ad851 := (by injection e851)
          (try replace hx851_0 := (HB.out.cell (World.block_lt_of_cell? w _ hx851_0)).trans hx851_0)
          (try replace hx851_1 := (HB.out.cell (World.block_lt_of_cell? w _ hx851_1)).trans hx851_1)
          (try replace hx851_2 := (HB.out.cell (World.block_lt_of_cell? w _ hx851_2)).trans hx851_2)
          (try replace hx851_3 := (HB.out.cell (World.block_lt_of_cell? w _ hx851_3)).trans hx851_3)
          replace p851 := eq_true p851
          replace q851 := eq_true q851
          go_wp2_with (first | (go_at_call 32; (with_reducible refine (R1Sign.calls kj6 ((rd_T54 l0 x3_1).f1.f0) ((rd_T54 l0 x3_1).f1.f1) ((rd_T54 l0 x3_1).f1.f2) t852 _ A15.out).mono ?_); rintro e w17 ⟨rfl, hb⟩; have n0_ := sB hb; revert n0_; clear HB; intro HB; (try clear hb); (try clear hb2); (try clear hk); (try clear hi)))
          repeat (go_quiet (first | (go_at_call 32; (with_reducible refine (R1Sign.calls kj6 ((rd_T54 l0 x3_1).f1.f0) ((rd_T54 l0 x3_1).f1.f1) ((rd_T54 l0 x3_1).f1.f2) t852 _ A15.out).mono ?_); rintro e w17 ⟨rfl, hb⟩; have n0_ := sB hb; revert n0_; clear HB; intro HB; (try clear hb); (try clear hb2); (try clear hk); (try clear hi))); try go_wp2_with (first | (go_at_call 32; (with_reducible refine (R1Sign.calls kj6 ((rd_T54 l0 x3_1).f1.f0) ((rd_T54 l0 x3_1).f1.f1) ((rd_T54 l0 x3_1).f1.f2) t852 _ A15.out).mono ?_); rintro e w17 ⟨rfl, hb⟩; have n0_ := sB hb; revert n0_; clear HB; intro HB; (try clear hb); (try clear hb2); (try clear hk); (try clear hi))))
          go_ret
          exact ⟨zE, zH⟩
         ·rw [if_neg c16] at H
          have c16b0 := decide_eq_false c16
          clear c16
          have H' := Aside0.mk H
          clear H
          have p851 : 0 ≤ (x3_1 : Int) := of_decide_eq_true zq0
          have q851 : x3_1 < (l0.length : Int) := of_decide_eq_true zq0
          obtain ⟨ad851, e851, hx851_0, hx851_1, hx851_2, hx851_3⟩ := at_T54 HR0.out x3_1 p851 q851
          obtain rfl : ad847 = ad851 := (by injection e851)
          (try replace hx851_0 := (HB.out.cell (World.block_lt_of_cell? w _ hx851_0)).trans hx851_0)
          (try replace hx851_1 := (HB.out.cell (World.block_lt_of_cell? w _ hx851_1)).trans hx851_1)
          (try replace hx851_2 := (HB.out.cell (World.block_lt_of_cell? w _ hx851_2)).trans hx851_2)
          (try replace hx851_3 := (HB.out.cell (World.block_lt_of_cell? w _ hx851_3)).trans hx851_3)
          replace p851 := eq_true p851
          replace q851 := eq_true q851
          go_wp2_with (first | (go_at_call 32; (with_reducible refine (R1Sign.calls kj6 ((rd_T54 l0 x3_1).f1.f0) ((rd_T54 l0 x3_1).f1.f1) ((rd_T54 l0 x3_1).f1.f2) t852 _ A15.out).mono ?_); rintro e w18 ⟨rfl, hb⟩; have n0_ := sB hb; revert n0_; clear HB; intro HB; (try clear hb); (try clear hb2); (try clear hk); (try clear hi)))
          repeat (go_quiet (first | (go_at_call 32; (with_reducible refine (R1Sign.calls kj6 ((rd_T54 l0 x3_1).f1.f0) ((rd_T54 l0 x3_1).f1.f1) ((rd_T54 l0 x3_1).f1.f2) t852 _ A15.out).mono ?_); rintro e w18 ⟨rfl, hb⟩; have n0_ := sB hb; revert n0_; clear HB; intro HB; (try clear hb); (try clear hb2); (try clear hk); (try clear hi))); try go_wp2_with (first | (go_at_call 32; (with_reducible refine (R1Sign.calls kj6 ((rd_T54 l0 x3_1).f1.f0) ((rd_T54 l0 x3_1).f1.f1) ((rd_T54 l0 x3_1).f1.f2) t852 _ A15.out).mono ?_); rintro e w18 ⟨rfl, hb⟩; have n0_ := sB hb; revert n0_; clear HB; intro HB; (try clear hb); (try clear hb2); (try clear hk); (try clear hi))))
          go_roundg kj6
          case measure => have := HK1.out; have := HJ6.out; omega
          case rel => exact ⟨(wrap64 (x3_1 + 1)), zq1, H', ⟨by have := HK1.out; have := HJ6.out; omega⟩, ⟨zH⟩⟩
     ·replace c6 := Bool.eq_false_iff.mpr c6
      subst c6
      have H1 : (some 1) = some r := by rw [if_neg (show ¬ (false = true) by decide)] at H; exact H
      clear H
      have H := H1
      clear H1
      obtain rfl := Option.some.inj H
      have p847 : 0 ≤ (x3_1 : Int) := of_decide_eq_true zq0
      have q847 : x3_1 < (l0.length : Int) := of_decide_eq_true zq0
      obtain ⟨ad847, e847, hx847_0, hx847_1, hx847_2, hx847_3⟩ := at_T54 HR0.out x3_1 p847 q847
      cases e847
      (try replace hx847_0 := (HB.out.cell (World.block_lt_of_cell? w _ hx847_0)).trans hx847_0)
      (try replace hx847_1 := (HB.out.cell (World.block_lt_of_cell? w _ hx847_1)).trans hx847_1)
      (try replace hx847_2 := (HB.out.cell (World.block_lt_of_cell? w _ hx847_2)).trans hx847_2)
      (try replace hx847_3 := (HB.out.cell (World.block_lt_of_cell? w _ hx847_3)).trans hx847_3)
      replace p847 := eq_true p847
      replace q847 := eq_true q847
      go_wp2_with (first | (go_at_call 31; (with_reducible refine (R1IsDay.calls ((rd_T54 l0 x3_1).f0) false _ A5.out).mono ?_); rintro e w' ⟨rfl, ⟨nd, rfl⟩⟩; (try first | exact ⟨rfl, _, World.drewN_drewN _ _ _⟩ | exact ⟨rfl, _, Eq.trans (World.drewN_drewN _ _ _) (congrArg (World.drewN _) (Nat.add_assoc _ _ _))⟩)))
      repeat (go_quiet (first | (go_at_call 31; (with_reducible refine (R1IsDay.calls ((rd_T54 l0 x3_1).f0) false _ A5.out).mono ?_); rintro e w' ⟨rfl, ⟨nd, rfl⟩⟩; (try first | exact ⟨rfl, _, World.drewN_drewN _ _ _⟩ | exact ⟨rfl, _, Eq.trans (World.drewN_drewN _ _ _) (congrArg (World.drewN _) (Nat.add_assoc _ _ _))⟩))); try go_wp2_with (first | (go_at_call 31; (with_reducible refine (R1IsDay.calls ((rd_T54 l0 x3_1).f0) false _ A5.out).mono ?_); rintro e w' ⟨rfl, ⟨nd, rfl⟩⟩; (try first | exact ⟨rfl, _, World.drewN_drewN _ _ _⟩ | exact ⟨rfl, _, Eq.trans (World.drewN_drewN _ _ _) (congrArg (World.drewN _) (Nat.add_assoc _ _ _))⟩))))
      go_ret
      exact ⟨zE, zH⟩
    ·rw [if_neg c3] at H
     have c3b0 := decide_eq_false c3
     clear c3
     obtain rfl := Option.some.inj H
     go_wp2
     repeat (go_quiet (fail); try go_wp2)
     go_ret
     exact ⟨zE, zH⟩
end Go.Proofs.YtggfilmdfpmbmaaDoor.QN
end
section
namespace Go.Proofs.YtggfilmdfpmbmaaDoor.QN
open Go.RowKit Go.Proofs.YtggfilmdfpmbmaaDoorW.PrintWords Go.Proofs.YtggfilmdfpmbmaaDoorW.PrintLast Go.Proofs.YtggfilmdfpmbmaaDoorW.PrintMore
attribute [local go_sem] max2_int min2_int max_two min_two max_three min_three max_four min_four   -- for this text's walks alone
set_option linter.unusedVariables false
set_option linter.unusedSimpArgs false
attribute [local go_sem high] eqA29
def R1rate.l0 : Nat → List (S54) → Int → Int → Bool → ByteArray → ByteArray → Option (Bool × ByteArray × ByteArray)
 | 0, _, _, _, _, _, _ => none
 | k + 1, x0, x1, x6, x860000, x860001, x860002 => if x6 < (x0.length : Int) then (if 0 ≤ x6 then (if ((rd_T54 x0 x6).f0) ≤ x1 then ((R1Fix.f k ((rd_T54 x0 x6).f1.f0) ((rd_T54 x0 x6).f1.f1) ((rd_T54 x0 x6).f1.f2)).bind fun bt862 => (R1rate.l0 k x0 x1 (wrap64 (x6 + 1)) bt862.1 bt862.2.1 bt862.2.2)) else (some (x860000, x860001, x860002))) else (none)) else (some (x860000, x860001, x860002))
def R1rate.f (k : Nat) (l0 : List (S54)) (a1 : Int) : Option (Bool × ByteArray × ByteArray) := R1rate.l0 k l0 a1 0 false (⟨#[]⟩ : ByteArray) (⟨#[]⟩ : ByteArray)
set_option maxHeartbeats 8000000 in
set_option maxRecDepth 100000 in
theorem R1rate.calls (k : Nat) (A0 : Option Addr) (c0 : Nat) (l0 : List (S54)) (a1 : Int) (r1 : Bool) (r2 : ByteArray) (r3 : ByteArray) (w : World) (hr0 : Kd.C k54 w A0 l0.length l0) (hc0 : l0.length ≤ c0) (h : R1rate.f k l0 a1 = some (r1, r2, r3)) :
 Calls Tryd.prog 47 #[.slice A0 l0.length c0, .int .i64 a1] w fun e w' => e = .returned (.agg #[.bool r1, .string r2, .string r3]) ∧ Below w.heap.size w w' := by
 have hu29 := Tryd.underlying29
 have HR0 := Aside0.mk hr0
 have HC0 := Aside0.mk hc0
 clear hr0 hc0
 have HB := Aside0.mk (Below.refl w.heap.size w)
 have H : (R1rate.l0 k l0 a1 0 false (⟨#[]⟩ : ByteArray) (⟨#[]⟩ : ByteArray)) = some (r1, r2, r3) := h
 clear h
 have H' := Aside0.mk H
 clear H
 go_enter Tryd.func47, Tryd.ntmps47
 go_wp2_with (first | (refine box_evA 4 #[.bool false, .string (⟨#[]⟩ : ByteArray), .string (⟨#[]⟩ : ByteArray)] 29 ?_; intro gb858 hg w3 hbox hb; obtain ⟨n0_, n1_, n2_, n3_⟩ := bx4 w hbox hb hg; revert n0_ n1_ n2_ n3_; clear HB; intro HB BK858 GW858 GE858; clear hb hbox hg) | (refine box_evA 5 #[.bool false, .string (⟨#[]⟩ : ByteArray), .string (⟨#[]⟩ : ByteArray)] 29 ?_; intro gb859 hg w4 hbox hb; have n0_ := bB BK858 hb; have n1_ := sB hb; have n2_ := Aside0.mk (hbox); have n3_ := wE w hg; have n4_ := wE w hg; have n5_ := Aside0.mk (nL BK858 hg); have n6_ := Aside0.mk (nG BK858 hg); revert n0_ n1_ n2_ n3_ n4_ n5_ n6_; clear BK858 HB; intro BK858 HB BK859 GW859 GE859 NB858_859 NB859_858; clear hb hbox hg; have hnb5 := NB859_858.out; have hnc5 := NB858_859.out; have hcz6_0 := cB BK859 0 (.bool false); have hcz6_1 := cB BK859 1 (.string (⟨#[]⟩ : ByteArray)); have hcz6_2 := cB BK859 2 (.string (⟨#[]⟩ : ByteArray)); have hfz6_0 := fB BK859 0; have hfz6_1 := fB BK859 1; have hfz6_2 := fB BK859 2))
 go_loopg [6] k (fun kq v6 w' => ∃ (x6_1 : Int) (x860000_1 : Bool) (x860001_1 : ByteArray) (x860002_1 : ByteArray), v6 = .int .i64 x6_1 ∧ Aside0 (R1rate.l0 kq l0 a1 x6_1 x860000_1 x860001_1 x860002_1 = some (r1, r2, r3)) ∧ Aside0 (kq ≤ k) ∧ Aside0 (w'.heap[gb858]? = some (.cells #[.bool false, .string (⟨#[]⟩ : ByteArray), .string (⟨#[]⟩ : ByteArray)] 29 (0, 0))) ∧ Aside0 (w'.heap[gb859]? = some (.cells #[.bool x860000_1, .string x860001_1, .string x860002_1] 29 (0, 0))) ∧ Aside0 (Below w.heap.size w w'))
 case atStart => exact ⟨(0), (false), ((⟨#[]⟩ : ByteArray)), ((⟨#[]⟩ : ByteArray)), zq1, H', ⟨Nat.le_refl _⟩, ⟨bC BK858⟩, ⟨bC BK859⟩, ⟨zH⟩⟩
 case round =>
  clear H'
  obtain ⟨x6_1, x860000_1, x860001_1, x860002_1, rfl, HA, HK1, BK858, BK859, HB⟩ := hrel
  cases gk with
  | zero => exact absurd HA.out (by simp [R1rate.l0])
  | succ k1 =>
   have H := HA.out
   clear HA
   simp only [R1rate.l0] at H
   by_cases c7 : x6_1 < (l0.length : Int)
   ·rw [if_pos c7] at H
    have c7b0 := decide_eq_true c7
    clear c7
    replace H := iteD H
    obtain ⟨c8b0, H⟩ := H
    by_cases c9 : ((rd_T54 l0 x6_1).f0) ≤ a1
    ·rw [if_pos c9] at H
     have c9b0 := decide_eq_true c9
     clear c9
     replace H := bS H
     obtain ⟨⟨t862, t863, t864⟩, A10, H⟩ := H
     (try dsimp only at H)
     have H' := Aside0.mk H
     clear H
     have p860 : 0 ≤ (x6_1 : Int) := of_decide_eq_true zq0
     have q860 : x6_1 < (l0.length : Int) := of_decide_eq_true zq0
     obtain ⟨ad860, e860, hx860_0, hx860_1, hx860_2, hx860_3⟩ := at_T54 HR0.out x6_1 p860 q860
     cases e860
     (try replace hx860_0 := (HB.out.cell (World.block_lt_of_cell? w _ hx860_0)).trans hx860_0)
     (try replace hx860_1 := (HB.out.cell (World.block_lt_of_cell? w _ hx860_1)).trans hx860_1)
     (try replace hx860_2 := (HB.out.cell (World.block_lt_of_cell? w _ hx860_2)).trans hx860_2)
     (try replace hx860_3 := (HB.out.cell (World.block_lt_of_cell? w _ hx860_3)).trans hx860_3)
     replace p860 := eq_true p860
     replace q860 := eq_true q860
     have p861 : 0 ≤ (x6_1 : Int) := of_decide_eq_true zq0
     have q861 : x6_1 < (l0.length : Int) := of_decide_eq_true zq0
     obtain ⟨ad861, e861, hx861_0, hx861_1, hx861_2, hx861_3⟩ := at_T54 HR0.out x6_1 p861 q861
     obtain rfl : ad860 = ad861 := (by injection e861)
     (try replace hx861_0 := (HB.out.cell (World.block_lt_of_cell? w _ hx861_0)).trans hx861_0)
     (try replace hx861_1 := (HB.out.cell (World.block_lt_of_cell? w _ hx861_1)).trans hx861_1)
     (try replace hx861_2 := (HB.out.cell (World.block_lt_of_cell? w _ hx861_2)).trans hx861_2)
     (try replace hx861_3 := (HB.out.cell (World.block_lt_of_cell? w _ hx861_3)).trans hx861_3)
     replace p861 := eq_true p861
     replace q861 := eq_true q861
     go_wp2_with (first | (refine goesLA 28 Tryd.func38 #[.agg #[.bool ((rd_T54 l0 x6_1).f1.f0), .string ((rd_T54 l0 x6_1).f1.f1), .string ((rd_T54 l0 x6_1).f1.f2)]] ?_; (with_reducible refine (R1Fix.calls k1 ((rd_T54 l0 x6_1).f1.f0) ((rd_T54 l0 x6_1).f1.f1) ((rd_T54 l0 x6_1).f1.f2) t862 t863 t864 _ A10.out).mono ?_); rintro e w11 ⟨rfl, hb⟩; refine ⟨_, rfl, ?_⟩; have n0_ := bB BK858 hb; have n1_ := bB BK859 hb; have n2_ := sB hb; revert n0_ n1_ n2_; clear BK858 BK859 HB; intro BK858 BK859 HB; (try clear hb); (try clear hb2); (try clear hk); (try clear hi); have hnb12 := NB859_858.out; have hnc12 := NB858_859.out; have hcz13_0 := cB BK859 0 (.bool x860000_1); have hcz13_1 := cB BK859 1 (.string x860001_1); have hcz13_2 := cB BK859 2 (.string x860002_1); have hfz13_0 := fB BK859 0; have hfz13_1 := fB BK859 1; have hfz13_2 := fB BK859 2))
     go_roundg k1
     case measure => have := HK1.out; omega
     case rel => exact ⟨(wrap64 (x6_1 + 1)), (t862), (t863), (t864), zq1, H', ⟨by have := HK1.out; omega⟩, ⟨bC BK858⟩, ⟨bC BK859⟩, ⟨zH⟩⟩
    ·rw [if_neg c9] at H
     have c9b0 := decide_eq_false c9
     clear c9
     simp only [Option.some.injEq, Prod.mk.injEq] at H
     obtain ⟨rfl, rfl, rfl⟩ := H
     have p860 : 0 ≤ (x6_1 : Int) := of_decide_eq_true zq0
     have q860 : x6_1 < (l0.length : Int) := of_decide_eq_true zq0
     obtain ⟨ad860, e860, hx860_0, hx860_1, hx860_2, hx860_3⟩ := at_T54 HR0.out x6_1 p860 q860
     cases e860
     (try replace hx860_0 := (HB.out.cell (World.block_lt_of_cell? w _ hx860_0)).trans hx860_0)
     (try replace hx860_1 := (HB.out.cell (World.block_lt_of_cell? w _ hx860_1)).trans hx860_1)
     (try replace hx860_2 := (HB.out.cell (World.block_lt_of_cell? w _ hx860_2)).trans hx860_2)
     (try replace hx860_3 := (HB.out.cell (World.block_lt_of_cell? w _ hx860_3)).trans hx860_3)
     replace p860 := eq_true p860
     replace q860 := eq_true q860
     have hnb14 := NB859_858.out
     have hnc14 := NB858_859.out
     have hcz15_0 := cB BK859 0 (.bool x860000_1)
     have hcz15_1 := cB BK859 1 (.string x860001_1)
     have hcz15_2 := cB BK859 2 (.string x860002_1)
     have hfz15_0 := fB BK859 0
     have hfz15_1 := fB BK859 1
     have hfz15_2 := fB BK859 2
     have hcz16_0 := cB BK858 0 (.bool false)
     have hcz16_1 := cB BK858 1 (.string (⟨#[]⟩ : ByteArray))
     have hcz16_2 := cB BK858 2 (.string (⟨#[]⟩ : ByteArray))
     have hfz16_0 := fB BK858 0
     have hfz16_1 := fB BK858 1
     have hfz16_2 := fB BK858 2
     go_wp2
     refine bodyPost_ret (results_cell_row rfl _ _ gb858 29 #[.bool x860000_1, .string x860001_1, .string x860002_1] (0, 0) _ rfl (bC BK858) Tryd.underlying29 rfl (by kernel_rfl)) rfl ?_
     exact ⟨zE, zH⟩
   ·rw [if_neg c7] at H
    have c7b0 := decide_eq_false c7
    clear c7
    simp only [Option.some.injEq, Prod.mk.injEq] at H
    obtain ⟨rfl, rfl, rfl⟩ := H
    have hnb17 := NB859_858.out
    have hnc17 := NB858_859.out
    have hcz18_0 := cB BK859 0 (.bool x860000_1)
    have hcz18_1 := cB BK859 1 (.string x860001_1)
    have hcz18_2 := cB BK859 2 (.string x860002_1)
    have hfz18_0 := fB BK859 0
    have hfz18_1 := fB BK859 1
    have hfz18_2 := fB BK859 2
    have hcz19_0 := cB BK858 0 (.bool false)
    have hcz19_1 := cB BK858 1 (.string (⟨#[]⟩ : ByteArray))
    have hcz19_2 := cB BK858 2 (.string (⟨#[]⟩ : ByteArray))
    have hfz19_0 := fB BK858 0
    have hfz19_1 := fB BK858 1
    have hfz19_2 := fB BK858 2
    go_wp2
    refine bodyPost_ret (results_cell_row rfl _ _ gb858 29 #[.bool x860000_1, .string x860001_1, .string x860002_1] (0, 0) _ rfl (bC BK858) Tryd.underlying29 rfl (by kernel_rfl)) rfl ?_
    exact ⟨zE, zH⟩
def R1InterestRate.j0 : Nat → List (S54) → Int → Int → Bool → Option (Bool × ByteArray × ByteArray × Int)
 | 0, _, _, _, _ => none
 | k + 1, x0, x1, x6, x15 => if x15 = true then (if 1 = 0 then ((R1rate.f k x0 x1).bind fun bt903 => (some (bt903.1, bt903.2.1, bt903.2.2, 0))) else (some (false, (⟨#[]⟩ : ByteArray), (⟨#[]⟩ : ByteArray), 1))) else (if x6 = 0 then ((R1rate.f k x0 x1).bind fun bt906 => (some (bt906.1, bt906.2.1, bt906.2.2, 0))) else (some (false, (⟨#[]⟩ : ByteArray), (⟨#[]⟩ : ByteArray), x6)))
def R1InterestRate.f (k : Nat) (l0 : List (S54)) (a1 : Int) : Option (Bool × ByteArray × ByteArray × Int) := (R1CheckSteps.f k l0).bind fun t901 => (if t901 = 0 then ((R1IsDay.f a1).bind fun t902 => (R1InterestRate.j0 k l0 a1 t901 (!t902))) else (R1InterestRate.j0 k l0 a1 t901 false))
set_option maxHeartbeats 8000000 in
set_option maxRecDepth 100000 in
theorem R1InterestRate.calls (k : Nat) (A0 : Option Addr) (c0 : Nat) (l0 : List (S54)) (a1 : Int) (r1 : Bool) (r2 : ByteArray) (r3 : ByteArray) (r4 : Int) (w : World) (hr0 : Kd.C k54 w A0 l0.length l0) (hc0 : l0.length ≤ c0) (h : R1InterestRate.f k l0 a1 = some (r1, r2, r3, r4)) :
 Calls Tryd.prog 23 #[.slice A0 l0.length c0, .int .i64 a1] w fun e w' => e = .returned (.tuple #[.agg #[.bool r1, .string r2, .string r3], .int .i64 r4]) ∧ Below w.heap.size w w' := by
 have hu29 := Tryd.underlying29
 have HR0 := Aside0.mk hr0
 have HC0 := Aside0.mk hc0
 clear hr0 hc0
 have HB := Aside0.mk (Below.refl w.heap.size w)
 have H : ((R1CheckSteps.f k l0).bind fun t901 => (if t901 = 0 then ((R1IsDay.f a1).bind fun t902 => (R1InterestRate.j0 k l0 a1 t901 (!t902))) else (R1InterestRate.j0 k l0 a1 t901 false))) = some (r1, r2, r3, r4) := h
 clear h
 replace H := bS H
 obtain ⟨t901, A3, H⟩ := H
 have HC4 := Aside0.mk H
 clear H
 go_enter Tryd.func23, Tryd.ntmps23
 go_upto_region 2 with (first | (refine box_evA 4 #[.bool false, .string (⟨#[]⟩ : ByteArray), .string (⟨#[]⟩ : ByteArray)] 29 ?_; intro gb900 hg w5 hbox hb; obtain ⟨n0_, n1_, n2_, n3_⟩ := bx4 w hbox hb hg; revert n0_ n1_ n2_ n3_; clear HB; intro HB BK900 GW900 GE900; clear hb hbox hg) | (refine goesLA 8 Tryd.func13 #[.slice A0 l0.length c0] ?_; (with_reducible refine (R1CheckSteps.calls k _ _ l0 t901 _ ?side1 ?side2 A3.out).mono ?_); (case side1 => exact sC (Kd.C_below HR0.out HB.out)); (case side2 => exact HC0.out); rintro e w6 ⟨rfl, hb⟩; refine ⟨_, rfl, ?_⟩; have n0_ := bB BK900 hb; have n1_ := sB hb; revert n0_ n1_; clear BK900 HB; intro BK900 HB; (try clear hb); (try clear hb2); (try clear hk); (try clear hi)))
 (try simp only [Act.put, List.setIfInBounds_toArray, List.set_cons_zero, List.set_cons_succ])
 go_cut [15] (fun v15 wc => ∃ (kq : Nat) (x15_3 : Bool), v15 = .bool x15_3 ∧ Aside0 (R1InterestRate.j0 kq l0 a1 t901 x15_3 = some (r1, r2, r3, r4)) ∧ Aside0 (kq ≤ k) ∧ Aside0 (wc.heap[gb900]? = some (.cells #[.bool false, .string (⟨#[]⟩ : ByteArray), .string (⟨#[]⟩ : ByteArray)] 29 (0, 0))) ∧ Aside0 (Below w.heap.size w wc))
 case first =>
  have H := HC4.out
  clear HC4
  by_cases c7 : t901 = 0
  ·rw [if_pos c7] at H
   have c7b0 := beq_iff_eq.mpr c7
   have c7b1 : (t901 != 0) = false := bne_eq_false_iff_eq.mpr c7
   clear c7
   (first | rw [c7b0] | (simp only [i64_w, i32_w]; rw [c7b0]) | rw [c7b1] | skip)
   replace H := bS H
   obtain ⟨t902, A8, H⟩ := H
   have H' := Aside0.mk H
   clear H
   go_wp2_with (first | (go_at_call 31; (with_reducible refine (R1IsDay.calls a1 t902 _ A8.out).mono ?_); rintro e w' ⟨rfl, ⟨nd, rfl⟩⟩))
   go_meet
   case rel => exact ⟨_, (!t902), zq1, H', ⟨by first | omega | exact Nat.le_refl _⟩, ⟨bC BK900⟩, ⟨zH⟩⟩
  ·rw [if_neg c7] at H
   have c7b0 := beq_eq_false_iff_ne.mpr c7
   have c7b1 := bne_iff_ne.mpr c7
   (first | rw [c7b0] | (simp only [i64_w, i32_w]; rw [c7b0]) | rw [c7b1] | skip)
   have H' := Aside0.mk H
   clear H
   go_wp2
   go_meet
   case rel => exact ⟨_, (false), zq1, H', ⟨by first | omega | exact Nat.le_refl _⟩, ⟨bC BK900⟩, ⟨zH⟩⟩
 case rest =>
  clear HC4
  obtain ⟨kq, x15_3, rfl, HA, HJ3, BK900, HB⟩ := hcut
  cases kq with
  | zero => exact absurd HA.out (by simp [R1InterestRate.j0])
  | succ kj3 =>
   have H := HA.out
   clear HA
   simp only [R1InterestRate.j0] at H
   by_cases c9 : x15_3 = true
   ·subst c9
    have H1 : (if 1 = 0 then ((R1rate.f kj3 l0 a1).bind fun bt903 => (some (bt903.1, bt903.2.1, bt903.2.2, 0))) else (some (false, (⟨#[]⟩ : ByteArray), (⟨#[]⟩ : ByteArray), 1))) = some (r1, r2, r3, r4) := by rw [if_pos rfl] at H; exact H
    clear H
    have H := H1
    clear H1
    by_cases c10 : 1 = 0
    ·rw [if_pos c10] at H
     have c10b0 := beq_iff_eq.mpr c10
     have c10b1 : (1 != 0) = false := bne_eq_false_iff_eq.mpr c10
     clear c10
     replace H := bS H
     obtain ⟨⟨t903, t904, t905⟩, A11, H⟩ := H
     (try dsimp only at H)
     simp only [Option.some.injEq, Prod.mk.injEq] at H
     obtain ⟨rfl, rfl, rfl, rfl⟩ := H
     go_wp2_with (first | (refine goesLA 22 Tryd.func47 #[.slice A0 l0.length c0, .int .i64 a1] ?_; (with_reducible refine (R1rate.calls kj3 _ _ l0 a1 t903 t904 t905 _ ?side1 ?side2 A11.out).mono ?_); (case side1 => exact sC (Kd.C_below HR0.out HB.out)); (case side2 => exact HC0.out); rintro e w12 ⟨rfl, hb⟩; refine ⟨_, rfl, ?_⟩; have n0_ := bB BK900 hb; have n1_ := sB hb; revert n0_ n1_; clear BK900 HB; intro BK900 HB; (try clear hb); (try clear hb2); (try clear hk); (try clear hi); have hcz13_0 := cB BK900 0 (.bool false); have hcz13_1 := cB BK900 1 (.string (⟨#[]⟩ : ByteArray)); have hcz13_2 := cB BK900 2 (.string (⟨#[]⟩ : ByteArray)); have hfz13_0 := fB BK900 0; have hfz13_1 := fB BK900 1; have hfz13_2 := fB BK900 2))
     all_goals refine bodyPost_ret (results_ct rfl _ _ gb900 29 #[.bool t903, .string t904, .string t905] (0, 0) _ rfl (bC BK900) Tryd.underlying29 rfl (by kernel_rfl)) rfl ?_
     all_goals exact ⟨zE, zH⟩
    ·rw [if_neg c10] at H
     have c10b0 := beq_eq_false_iff_ne.mpr c10
     have c10b1 := bne_iff_ne.mpr c10
     simp only [Option.some.injEq, Prod.mk.injEq] at H
     obtain ⟨rfl, rfl, rfl, rfl⟩ := H
     have hcz14_0 := cB BK900 0 (.bool false)
     have hcz14_1 := cB BK900 1 (.string (⟨#[]⟩ : ByteArray))
     have hcz14_2 := cB BK900 2 (.string (⟨#[]⟩ : ByteArray))
     have hfz14_0 := fB BK900 0
     have hfz14_1 := fB BK900 1
     have hfz14_2 := fB BK900 2
     go_wp2
     refine bodyPost_ret (results_ct rfl _ _ gb900 29 #[.bool false, .string (⟨#[]⟩ : ByteArray), .string (⟨#[]⟩ : ByteArray)] (0, 0) _ rfl (bC BK900) Tryd.underlying29 rfl (by kernel_rfl)) rfl ?_
     exact ⟨zE, zH⟩
   ·replace c9 := Bool.eq_false_iff.mpr c9
    subst c9
    have H1 : (if t901 = 0 then ((R1rate.f kj3 l0 a1).bind fun bt906 => (some (bt906.1, bt906.2.1, bt906.2.2, 0))) else (some (false, (⟨#[]⟩ : ByteArray), (⟨#[]⟩ : ByteArray), t901))) = some (r1, r2, r3, r4) := by rw [if_neg (show ¬ (false = true) by decide)] at H; exact H
    clear H
    have H := H1
    clear H1
    by_cases c15 : t901 = 0
    ·rw [if_pos c15] at H
     have c15b0 := beq_iff_eq.mpr c15
     have c15b1 : (t901 != 0) = false := bne_eq_false_iff_eq.mpr c15
     clear c15
     replace H := bS H
     obtain ⟨⟨t906, t907, t908⟩, A16, H⟩ := H
     (try dsimp only at H)
     simp only [Option.some.injEq, Prod.mk.injEq] at H
     obtain ⟨rfl, rfl, rfl, rfl⟩ := H
     go_wp2_with (first | (refine goesLA 22 Tryd.func47 #[.slice A0 l0.length c0, .int .i64 a1] ?_; (with_reducible refine (R1rate.calls kj3 _ _ l0 a1 t906 t907 t908 _ ?side1 ?side2 A16.out).mono ?_); (case side1 => exact sC (Kd.C_below HR0.out HB.out)); (case side2 => exact HC0.out); rintro e w17 ⟨rfl, hb⟩; refine ⟨_, rfl, ?_⟩; have n0_ := bB BK900 hb; have n1_ := sB hb; revert n0_ n1_; clear BK900 HB; intro BK900 HB; (try clear hb); (try clear hb2); (try clear hk); (try clear hi); have hcz18_0 := cB BK900 0 (.bool false); have hcz18_1 := cB BK900 1 (.string (⟨#[]⟩ : ByteArray)); have hcz18_2 := cB BK900 2 (.string (⟨#[]⟩ : ByteArray)); have hfz18_0 := fB BK900 0; have hfz18_1 := fB BK900 1; have hfz18_2 := fB BK900 2))
     refine bodyPost_ret (results_ct rfl _ _ gb900 29 #[.bool t906, .string t907, .string t908] (0, 0) _ rfl (bC BK900) Tryd.underlying29 rfl (by kernel_rfl)) rfl ?_
     exact ⟨zE, zH⟩
    ·rw [if_neg c15] at H
     have c15b0 := beq_eq_false_iff_ne.mpr c15
     have c15b1 := bne_iff_ne.mpr c15
     simp only [Option.some.injEq, Prod.mk.injEq] at H
     obtain ⟨rfl, rfl, rfl, rfl⟩ := H
     have hcz19_0 := cB BK900 0 (.bool false)
     have hcz19_1 := cB BK900 1 (.string (⟨#[]⟩ : ByteArray))
     have hcz19_2 := cB BK900 2 (.string (⟨#[]⟩ : ByteArray))
     have hfz19_0 := fB BK900 0
     have hfz19_1 := fB BK900 1
     have hfz19_2 := fB BK900 2
     go_wp2
     refine bodyPost_ret (results_ct rfl _ _ gb900 29 #[.bool false, .string (⟨#[]⟩ : ByteArray), .string (⟨#[]⟩ : ByteArray)] (0, 0) _ rfl (bC BK900) Tryd.underlying29 rfl (by kernel_rfl)) rfl ?_
     exact ⟨zE, zH⟩
end Go.Proofs.YtggfilmdfpmbmaaDoor.QN
end
section
namespace Go.Proofs.YtggfilmdfpmbmaaDoor.QN
open Go.RowKit Go.Proofs.YtggfilmdfpmbmaaDoorW.PrintWords Go.Proofs.YtggfilmdfpmbmaaDoorW.PrintLast Go.Proofs.YtggfilmdfpmbmaaDoorW.PrintMore
attribute [local go_sem] max2_int min2_int max_two min_two max_three min_three max_four min_four   -- for this text's walks alone
set_option linter.unusedVariables false
set_option linter.unusedSimpArgs false
attribute [local go_sem high] eqA29
def L0Few.f (a0_0 : Bool) (a0_1 : ByteArray) (a0_2 : ByteArray) : Option (Bool) := if (a0_1.size : Int) ≤ 24 then (some (decide ((a0_2.size : Int) ≤ 24))) else (some false)
set_option maxHeartbeats 8000000 in
set_option maxRecDepth 100000 in
theorem L0Few.calls (a0_0 : Bool) (a0_1 : ByteArray) (a0_2 : ByteArray) (r : Bool) (w : World) (h : L0Few.f a0_0 a0_1 a0_2 = some r) :
 Calls Tryd.prog 14 #[.agg #[.bool a0_0, .string a0_1, .string a0_2]] w fun e w' => e = .returned (.bool r) ∧ Below w.heap.size w w' := by
 have hu29 := Tryd.underlying29
 have HB := Aside0.mk (Below.refl w.heap.size w)
 have H : (if (a0_1.size : Int) ≤ 24 then (some (decide ((a0_2.size : Int) ≤ 24))) else (some false)) = some r := h
 clear h
 by_cases c2 : (a0_1.size : Int) ≤ 24
 ·rw [if_pos c2] at H
  have c2b0 := decide_eq_true c2
  have c2b1 : decide (a0_1.size ≤ 24) = true := decide_eq_true (by omega)
  clear c2
  obtain rfl := Option.some.inj H
  go_enter Tryd.func14, Tryd.ntmps14
  go_wp2_with (first | ((with_reducible refine gate_dst (N := 1) rfl ?_); (try (refine gate_guard (by rfl) ?_; dsimp only)); refine box_event ?hg (N := 1) ?hd (cs := #[.bool a0_0, .string a0_1, .string a0_2]) (t := 29) ?hr ?_; (case hd => rfl); (case hg => rfl); (case hr => first | (go_simp; done) | (go_simp; rfl)); intro gb909 hg w3 hbox hb; obtain ⟨n0_, n1_, n2_, n3_⟩ := bx4 w hbox hb hg; revert n0_ n1_ n2_ n3_; clear HB; intro HB BK909 GW909 GE909; clear hb hbox hg; have hcz4_0 := cB BK909 0 (.bool a0_0); have hcz4_1 := cB BK909 1 (.string a0_1); have hcz4_2 := cB BK909 2 (.string a0_2); have hfz4_0 := fB BK909 0; have hfz4_1 := fB BK909 1; have hfz4_2 := fB BK909 2))
  go_ret
  exact ⟨zE, zH⟩
 ·rw [if_neg c2] at H
  have c2b0 := decide_eq_false c2
  have c2b1 : decide (a0_1.size ≤ 24) = false := decide_eq_false (by omega)
  clear c2
  obtain rfl := Option.some.inj H
  go_enter Tryd.func14, Tryd.ntmps14
  go_wp2_with (first | ((with_reducible refine gate_dst (N := 1) rfl ?_); (try (refine gate_guard (by rfl) ?_; dsimp only)); refine box_event ?hg (N := 1) ?hd (cs := #[.bool a0_0, .string a0_1, .string a0_2]) (t := 29) ?hr ?_; (case hd => rfl); (case hg => rfl); (case hr => first | (go_simp; done) | (go_simp; rfl)); intro gb909 hg w5 hbox hb; obtain ⟨n0_, n1_, n2_, n3_⟩ := bx4 w hbox hb hg; revert n0_ n1_ n2_ n3_; clear HB; intro HB BK909 GW909 GE909; clear hb hbox hg; have hcz6_0 := cB BK909 0 (.bool a0_0); have hcz6_1 := cB BK909 1 (.string a0_1); have hcz6_2 := cB BK909 2 (.string a0_2); have hfz6_0 := fB BK909 0; have hfz6_1 := fB BK909 1; have hfz6_2 := fB BK909 2))
  go_ret
  exact ⟨zE, zH⟩
def L0Ratio.f (k : Nat) (a0 : Int) (a1 : Int) : Option (Bool × ByteArray × ByteArray) := (R1Fraction.f k a0 a1).bind fun bt911 => (some (bt911.1, bt911.2.1, bt911.2.2.1))
set_option maxHeartbeats 8000000 in
set_option maxRecDepth 100000 in
theorem L0Ratio.calls (k : Nat) (a0 : Int) (a1 : Int) (r1 : Bool) (r2 : ByteArray) (r3 : ByteArray) (w : World) (h : L0Ratio.f k a0 a1 = some (r1, r2, r3)) :
 Calls Tryd.prog 27 #[.int .i64 a0, .int .i64 a1] w fun e w' => e = .returned (.agg #[.bool r1, .string r2, .string r3]) ∧ Below w.heap.size w w' := by
 have hu29 := Tryd.underlying29
 have HB := Aside0.mk (Below.refl w.heap.size w)
 have H : ((R1Fraction.f k a0 a1).bind fun bt911 => (some (bt911.1, bt911.2.1, bt911.2.2.1))) = some (r1, r2, r3) := h
 clear h
 replace H := bS H
 obtain ⟨⟨t911, t912, t913, t914⟩, A3, H⟩ := H
 (try dsimp only at H)
 simp only [Option.some.injEq, Prod.mk.injEq] at H
 obtain ⟨rfl, rfl, rfl⟩ := H
 go_enter Tryd.func27, Tryd.ntmps27
 go_wp2_with (first | (refine box_evA 4 #[.bool false, .string (⟨#[]⟩ : ByteArray), .string (⟨#[]⟩ : ByteArray)] 29 ?_; intro gb910 hg w4 hbox hb; obtain ⟨n0_, n1_, n2_, n3_⟩ := bx4 w hbox hb hg; revert n0_ n1_ n2_ n3_; clear HB; intro HB BK910 GW910 GE910; clear hb hbox hg) | (refine goesLA 10 Tryd.func52 #[.int .i64 a0, .int .i64 a1] ?_; (with_reducible refine (R1Fraction.calls k a0 a1 t911 t912 t913 t914 _ A3.out).mono ?_); rintro e w5 ⟨rfl, hb⟩; refine ⟨_, rfl, ?_⟩; have n0_ := bB BK910 hb; have n1_ := sB hb; revert n0_ n1_; clear BK910 HB; intro BK910 HB; (try clear hb); (try clear hb2); (try clear hk); (try clear hi)) | (refine box_evA 5 #[.bool false, .string (⟨#[]⟩ : ByteArray), .string (⟨#[]⟩ : ByteArray)] 29 ?_; intro gb915 hg w6 hbox hb; have n0_ := bB BK910 hb; have n1_ := sB hb; have n2_ := Aside0.mk (hbox); have n3_ := wE w hg; have n4_ := wE w hg; have n5_ := Aside0.mk (nL BK910 hg); have n6_ := Aside0.mk (nG BK910 hg); revert n0_ n1_ n2_ n3_ n4_ n5_ n6_; clear BK910 HB; intro BK910 HB BK915 GW915 GE915 NB910_915 NB915_910; clear hb hbox hg; have hnb7 := NB915_910.out; have hnc7 := NB910_915.out; have hcz8_0 := cB BK915 0 (.bool false); have hcz8_1 := cB BK915 1 (.string (⟨#[]⟩ : ByteArray)); have hcz8_2 := cB BK915 2 (.string (⟨#[]⟩ : ByteArray)); have hfz8_0 := fB BK915 0; have hfz8_1 := fB BK915 1; have hfz8_2 := fB BK915 2; have hcz9_0 := cB BK910 0 (.bool false); have hcz9_1 := cB BK910 1 (.string (⟨#[]⟩ : ByteArray)); have hcz9_2 := cB BK910 2 (.string (⟨#[]⟩ : ByteArray)); have hfz9_0 := fB BK910 0; have hfz9_1 := fB BK910 1; have hfz9_2 := fB BK910 2))
 refine bodyPost_ret (results_cell_row rfl _ _ gb910 29 #[.bool t911, .string t912, .string t913] (0, 0) _ rfl (bC BK910) Tryd.underlying29 rfl (by kernel_rfl)) rfl ?_
 exact ⟨zE, zH⟩
def L0Whole.f (k : Nat) (a0 : Int) : Option (Bool × ByteArray × ByteArray) := (R1Int.f k a0).bind fun bt926 => (some (bt926.1, bt926.2.1, bt926.2.2))
set_option maxHeartbeats 8000000 in
set_option maxRecDepth 100000 in
theorem L0Whole.calls (k : Nat) (a0 : Int) (r1 : Bool) (r2 : ByteArray) (r3 : ByteArray) (w : World) (h : L0Whole.f k a0 = some (r1, r2, r3)) :
 Calls Tryd.prog 28 #[.int .i64 a0] w fun e w' => e = .returned (.agg #[.bool r1, .string r2, .string r3]) ∧ Below w.heap.size w w' := by
 have hu29 := Tryd.underlying29
 have HB := Aside0.mk (Below.refl w.heap.size w)
 have H : ((R1Int.f k a0).bind fun bt926 => (some (bt926.1, bt926.2.1, bt926.2.2))) = some (r1, r2, r3) := h
 clear h
 replace H := bS H
 obtain ⟨⟨t926, t927, t928⟩, A2, H⟩ := H
 (try dsimp only at H)
 simp only [Option.some.injEq, Prod.mk.injEq] at H
 obtain ⟨rfl, rfl, rfl⟩ := H
 go_enter Tryd.func28, Tryd.ntmps28
 go_wp2_with (first | (refine box_evA 2 #[.bool false, .string (⟨#[]⟩ : ByteArray), .string (⟨#[]⟩ : ByteArray)] 29 ?_; intro gb925 hg w3 hbox hb; obtain ⟨n0_, n1_, n2_, n3_⟩ := bx4 w hbox hb hg; revert n0_ n1_ n2_ n3_; clear HB; intro HB BK925 GW925 GE925; clear hb hbox hg) | (refine goesLA 4 Tryd.func40 #[.int .i64 a0] ?_; (with_reducible refine (R1Int.calls k a0 t926 t927 t928 _ A2.out).mono ?_); rintro e w4 ⟨rfl, hb⟩; refine ⟨_, rfl, ?_⟩; have n0_ := bB BK925 hb; have n1_ := sB hb; revert n0_ n1_; clear BK925 HB; intro BK925 HB; (try clear hb); (try clear hb2); (try clear hk); (try clear hi); have hcz5_0 := cB BK925 0 (.bool false); have hcz5_1 := cB BK925 1 (.string (⟨#[]⟩ : ByteArray)); have hcz5_2 := cB BK925 2 (.string (⟨#[]⟩ : ByteArray)); have hfz5_0 := fB BK925 0; have hfz5_1 := fB BK925 1; have hfz5_2 := fB BK925 2))
 refine bodyPost_ret (results_cell_row rfl _ _ gb925 29 #[.bool t926, .string t927, .string t928] (0, 0) _ rfl (bC BK925) Tryd.underlying29 rfl (by kernel_rfl)) rfl ?_
 exact ⟨zE, zH⟩
def L6few.l0 : Nat → List (S54) → Int → Int → Option (Bool)
 | 0, _, _, _ => none
 | k + 1, x8, x9, x10 => if x10 < x9 then (if 0 ≤ x10 then (if x10 < (x8.length : Int) then ((L0Few.f ((rd_T54 x8 x10).f1.f0) ((rd_T54 x8 x10).f1.f1) ((rd_T54 x8 x10).f1.f2)).bind fun t941 => (if t941 = true then (L6few.l0 k x8 x9 (wrap64 (x10 + 1))) else (some false))) else (none)) else (none)) else (some true)
def L6few.f (k : Nat) (l0 : List (S54)) : Option (Bool) := if (l0.length : Int) > 10 then (some false) else (L6few.l0 k l0 (l0.length : Int) 0)
set_option maxHeartbeats 8000000 in
set_option maxRecDepth 100000 in
theorem L6few.calls (k : Nat) (A0 : Option Addr) (c0 : Nat) (l0 : List (S54)) (r : Bool) (w : World) (hr0 : Kd.C k54 w A0 l0.length l0) (hc0 : l0.length ≤ c0) (h : L6few.f k l0 = some r) :
 Calls Tryd.prog 10 #[.slice A0 l0.length c0] w fun e w' => e = .returned (.bool r) ∧ Below w.heap.size w w' := by
 have hu54 := Tryd.underlying54
 have hu29 := Tryd.underlying29
 have HR0 := Aside0.mk hr0
 have HC0 := Aside0.mk hc0
 clear hr0 hc0
 have HB := Aside0.mk (Below.refl w.heap.size w)
 have H : (if (l0.length : Int) > 10 then (some false) else (L6few.l0 k l0 (l0.length : Int) 0)) = some r := h
 clear h
 by_cases c2 : (l0.length : Int) > 10
 ·rw [if_pos c2] at H
  have c2b0 := decide_eq_true c2
  have c2b1 : decide (10 < l0.length) = true := decide_eq_true (by omega)
  clear c2
  obtain rfl := Option.some.inj H
  go_enter Tryd.func10, Tryd.ntmps10
  go_wp2
  go_ret
  exact ⟨zE, zH⟩
 ·rw [if_neg c2] at H
  have c2b0 := decide_eq_false c2
  have c2b1 : decide (10 < l0.length) = false := decide_eq_false (by omega)
  clear c2
  have H' := Aside0.mk H
  clear H
  go_enter Tryd.func10, Tryd.ntmps10
  go_wp2
  go_loopg [10] k (fun kq v10 w' => ∃ (x10_1 : Int), v10 = .int .i64 x10_1 ∧ Aside0 (L6few.l0 kq l0 (l0.length : Int) x10_1 = some r) ∧ Aside0 (kq ≤ k) ∧ Aside0 (Below w.heap.size w w'))
  case atStart => exact ⟨(0), zq1, H', ⟨Nat.le_refl _⟩, ⟨zH⟩⟩
  case round =>
   clear H'
   obtain ⟨x10_1, rfl, HA, HK1, HB⟩ := hrel
   cases gk with
   | zero => exact absurd HA.out (by simp [L6few.l0])
   | succ k1 =>
    have H := HA.out
    clear HA
    simp only [L6few.l0] at H
    by_cases c3 : x10_1 < (l0.length : Int)
    ·rw [if_pos c3] at H
     have c3b0 := decide_eq_true c3
     clear c3
     replace H := iteD H
     obtain ⟨c4b0, H⟩ := H
     replace H := iteD H
     obtain ⟨c5b0, H⟩ := H
     replace H := bS H
     obtain ⟨t941, A6, H⟩ := H
     by_cases c7 : t941 = true
     ·subst c7
      have H1 : (L6few.l0 k1 l0 (l0.length : Int) (wrap64 (x10_1 + 1))) = some r := by rw [if_pos rfl] at H; exact H
      clear H
      have H := H1
      clear H1
      have H' := Aside0.mk H
      clear H
      have p939 : 0 ≤ (x10_1 : Int) := of_decide_eq_true zq0
      have q939 : x10_1 < (l0.length : Int) := of_decide_eq_true zq0
      obtain ⟨ad939, e939, hx939_0, hx939_1, hx939_2, hx939_3⟩ := at_T54 HR0.out x10_1 p939 q939
      cases e939
      (try replace hx939_0 := (HB.out.cell (World.block_lt_of_cell? w _ hx939_0)).trans hx939_0)
      (try replace hx939_1 := (HB.out.cell (World.block_lt_of_cell? w _ hx939_1)).trans hx939_1)
      (try replace hx939_2 := (HB.out.cell (World.block_lt_of_cell? w _ hx939_2)).trans hx939_2)
      (try replace hx939_3 := (HB.out.cell (World.block_lt_of_cell? w _ hx939_3)).trans hx939_3)
      replace p939 := eq_true p939
      replace q939 := eq_true q939
      go_wp2_with (first | (refine box_evA 4 #[.int .i64 0, .bool false, .string (⟨#[]⟩ : ByteArray), .string (⟨#[]⟩ : ByteArray)] 54 ?_; intro gb940 hg w8 hbox hb; obtain ⟨n0_, n1_, n2_, n3_⟩ := bx4 w hbox hb hg; revert n0_ n1_ n2_ n3_; clear HB; intro HB BK940 GW940 GE940; clear hb hbox hg; have hcz9_0 := cB BK940 0 (.int .i64 0); have hcz9_1 := cB BK940 1 (.bool false); have hcz9_2 := cB BK940 2 (.string (⟨#[]⟩ : ByteArray)); have hcz9_3 := cB BK940 3 (.string (⟨#[]⟩ : ByteArray)); have hfz9_0 := fB BK940 0; have hfz9_1 := fB BK940 1; have hfz9_2 := fB BK940 2; have hfz9_3 := fB BK940 3) | (refine goesLA 16 Tryd.func14 #[.agg #[.bool ((rd_T54 l0 x10_1).f1.f0), .string ((rd_T54 l0 x10_1).f1.f1), .string ((rd_T54 l0 x10_1).f1.f2)]] ?_; (with_reducible refine (L0Few.calls ((rd_T54 l0 x10_1).f1.f0) ((rd_T54 l0 x10_1).f1.f1) ((rd_T54 l0 x10_1).f1.f2) true _ A6.out).mono ?_); rintro e w10 ⟨rfl, hb⟩; refine ⟨_, rfl, ?_⟩; have n0_ := Aside0.mk (blk_below (bC BK940) hb); have n1_ := sB hb; revert n0_ n1_; clear BK940 HB; intro BK940 HB; (try clear hb); (try clear hb2); (try clear hk); (try clear hi)))
      go_roundg k1
      case measure => have := HK1.out; omega
      case rel => exact ⟨(wrap64 (x10_1 + 1)), zq1, H', ⟨by have := HK1.out; omega⟩, ⟨zH⟩⟩
     ·replace c7 := Bool.eq_false_iff.mpr c7
      subst c7
      have H1 : (some false) = some r := by rw [if_neg (show ¬ (false = true) by decide)] at H; exact H
      clear H
      have H := H1
      clear H1
      obtain rfl := Option.some.inj H
      have p939 : 0 ≤ (x10_1 : Int) := of_decide_eq_true zq0
      have q939 : x10_1 < (l0.length : Int) := of_decide_eq_true zq0
      obtain ⟨ad939, e939, hx939_0, hx939_1, hx939_2, hx939_3⟩ := at_T54 HR0.out x10_1 p939 q939
      cases e939
      (try replace hx939_0 := (HB.out.cell (World.block_lt_of_cell? w _ hx939_0)).trans hx939_0)
      (try replace hx939_1 := (HB.out.cell (World.block_lt_of_cell? w _ hx939_1)).trans hx939_1)
      (try replace hx939_2 := (HB.out.cell (World.block_lt_of_cell? w _ hx939_2)).trans hx939_2)
      (try replace hx939_3 := (HB.out.cell (World.block_lt_of_cell? w _ hx939_3)).trans hx939_3)
      replace p939 := eq_true p939
      replace q939 := eq_true q939
      go_wp2_with (first | (refine box_evA 4 #[.int .i64 0, .bool false, .string (⟨#[]⟩ : ByteArray), .string (⟨#[]⟩ : ByteArray)] 54 ?_; intro gb940 hg w11 hbox hb; obtain ⟨n0_, n1_, n2_, n3_⟩ := bx4 w hbox hb hg; revert n0_ n1_ n2_ n3_; clear HB; intro HB BK940 GW940 GE940; clear hb hbox hg; have hcz12_0 := cB BK940 0 (.int .i64 0); have hcz12_1 := cB BK940 1 (.bool false); have hcz12_2 := cB BK940 2 (.string (⟨#[]⟩ : ByteArray)); have hcz12_3 := cB BK940 3 (.string (⟨#[]⟩ : ByteArray)); have hfz12_0 := fB BK940 0; have hfz12_1 := fB BK940 1; have hfz12_2 := fB BK940 2; have hfz12_3 := fB BK940 3) | (refine goesLA 16 Tryd.func14 #[.agg #[.bool ((rd_T54 l0 x10_1).f1.f0), .string ((rd_T54 l0 x10_1).f1.f1), .string ((rd_T54 l0 x10_1).f1.f2)]] ?_; (with_reducible refine (L0Few.calls ((rd_T54 l0 x10_1).f1.f0) ((rd_T54 l0 x10_1).f1.f1) ((rd_T54 l0 x10_1).f1.f2) false _ A6.out).mono ?_); rintro e w13 ⟨rfl, hb⟩; refine ⟨_, rfl, ?_⟩; have n0_ := Aside0.mk (blk_below (bC BK940) hb); have n1_ := sB hb; revert n0_ n1_; clear BK940 HB; intro BK940 HB; (try clear hb); (try clear hb2); (try clear hk); (try clear hi)))
      go_ret
      exact ⟨zE, zH⟩
    ·rw [if_neg c3] at H
     have c3b0 := decide_eq_false c3
     clear c3
     obtain rfl := Option.some.inj H
     go_wp2
     go_ret
     exact ⟨zE, zH⟩
end Go.Proofs.YtggfilmdfpmbmaaDoor.QN
end
