/-
  Steps and laws behind the statement that the claim's last text proves: the words of the walks, the walks of the Go functions (printed by a program of this session's own, then shortened by one), and what they compute. Conditions: stated at each theorem.
-/
import Derived.Test.YtggfilmdfpmbmaaDoorP1
import Derived.Test.YtggfilmdfpmbmaaDoorP0
import Derived.Test.YtggfilmdfpmbmaaDoorP2
import Derived.Test.YtggfilmdfpmbmaaDoorP3
import Derived.Test.YtggfilmdfpmbmaaDoorP4
section
namespace Go.Proofs.YtggfilmdfpmbmaaDoor.QN
open Go.RowKit Go.Proofs.YtggfilmdfpmbmaaDoorW.PrintWords Go.Proofs.YtggfilmdfpmbmaaDoorW.PrintLast Go.Proofs.YtggfilmdfpmbmaaDoorW.PrintMore
attribute [local go_sem] max2_int min2_int max_two min_two max_three min_three max_four min_four   -- for this text's walks alone
set_option linter.unusedVariables false
set_option linter.unusedSimpArgs false
structure S29 where
 f0 : Bool
 f1 : ByteArray
 f2 : ByteArray
def z29 : S29 := ⟨false, (⟨#[]⟩ : ByteArray), (⟨#[]⟩ : ByteArray)⟩
def k29 : Kd S29 := Kd.iso (Kd.pair Kd.bool (Kd.pair Kd.string Kd.string)) (fun x : S29 => (x.f0, x.f1, x.f2))
theorem k29_open {w : World} {x : S29} {cs : List Value} (h : k29.K w x cs) : cs = [.bool x.f0, .string x.f1, .string x.f2] := by
 obtain ⟨_, _, rfl, rfl, ⟨_, _, rfl, rfl, rfl⟩⟩ := h
 exact rfl
theorem k29_mk (w : World) (x : S29)  : k29.K w x [.bool x.f0, .string x.f1, .string x.f2] := ⟨[.bool x.f0], [.string x.f1, .string x.f2], rfl, rfl, ⟨[.string x.f1], [.string x.f2], rfl, rfl, rfl⟩⟩
theorem k29_mkM (w : World) (base : Nat) (ok : Nat → Prop) (x : S29)  : k29.M w base ok x [.bool x.f0, .string x.f1, .string x.f2] := ⟨[.bool x.f0], [.string x.f1, .string x.f2], rfl, rfl, ⟨[.string x.f1], [.string x.f2], rfl, rfl, rfl⟩⟩
structure S54 where
 f0 : Int
 f1 : S29
def z54 : S54 := ⟨(0 : Int), z29⟩
def k54 : Kd S54 := Kd.iso (Kd.pair (Kd.int .i64) k29) (fun x : S54 => (x.f0, x.f1))
theorem k54_open {w : World} {x : S54} {cs : List Value} (h : k54.K w x cs) : cs = [.int .i64 x.f0, .bool x.f1.f0, .string x.f1.f1, .string x.f1.f2] := by
 obtain ⟨_, _, rfl, rfl, s1⟩ := h
 obtain rfl := k29_open s1
 exact rfl
theorem k54_mk (w : World) (x : S54)  : k54.K w x [.int .i64 x.f0, .bool x.f1.f0, .string x.f1.f1, .string x.f1.f2] := ⟨[.int .i64 x.f0], [.bool x.f1.f0, .string x.f1.f1, .string x.f1.f2], rfl, rfl, (k29_mk w x.f1 )⟩
theorem k54_mkM (w : World) (base : Nat) (ok : Nat → Prop) (x : S54)  : k54.M w base ok x [.int .i64 x.f0, .bool x.f1.f0, .string x.f1.f1, .string x.f1.f2] := ⟨[.int .i64 x.f0], [.bool x.f1.f0, .string x.f1.f1, .string x.f1.f2], rfl, rfl, (k29_mkM w base ok x.f1 )⟩
def rd_T54 (xs : List S54) (i : Int) : S54 := xs.getD i.toNat z54
theorem at_T54 {w : World} {A : Option Addr} {n : Nat} {xs : List S54} (h : Kd.C k54 w A n xs) (i : Int) (h0 : 0 ≤ i) (h1 : i < n) : ∃ ad , A = some ad ∧ w.cell? (ad.add (i.toNat * 4)) = some (.int .i64 (rd_T54 xs i).f0) ∧ w.cell? ⟨(ad.add (i.toNat * 4)).block, (ad.add (i.toNat * 4)).off + 1, none⟩ = some (.bool (rd_T54 xs i).f1.f0) ∧ w.cell? ⟨(ad.add (i.toNat * 4)).block, (ad.add (i.toNat * 4)).off + 2, none⟩ = some (.string (rd_T54 xs i).f1.f1) ∧ w.cell? ⟨(ad.add (i.toNat * 4)).block, (ad.add (i.toNat * 4)).off + 3, none⟩ = some (.string (rd_T54 xs i).f1.f2) := by
 obtain ⟨ad, c, e, _, hK, hc0⟩ := Kd.C_get h z54 i h0 h1
 have hc : ∀ j u, c[j]? = some u → w.cell? (ad.add (i.toNat * 4 + j)) = some u := hc0
 obtain rfl := k54_open hK
 exact ⟨ad, e, hc 0 _ rfl, by rw [← add_field _ _ 1 (by omega)]; exact hc 1 _ rfl, by rw [← add_field _ _ 2 (by omega)]; exact hc 2 _ rfl, by rw [← add_field _ _ 3 (by omega)]; exact hc 3 _ rfl⟩
theorem eqA29 (d : Nat) (w : World) (x0 y0 : Bool) (x1 y1 : ByteArray) (x2 y2 : ByteArray) :
 (Op.equalIn (d + 2) 29 (.agg #[.bool x0, .string x1, .string x2]) (.agg #[.bool y0, .string y1, .string y2])).run Tryd.prog w = .ok (x0 == y0 && (x1.toList == y1.toList && (x2.toList == y2.toList))) w := by
 refine eqA_of Tryd.underlying29 (by kernel_rfl) ?_
 refine eqf_cons (by rfl) (by go_simp; rfl) (by go_simp; rfl) (by go_simp) ?_
 refine eqf_cons (by rfl) (by go_simp; rfl) (by go_simp; rfl) (by go_simp) ?_
 exact eqf_last (by rfl) (by go_simp; rfl) (by go_simp; rfl) (by go_simp)
end Go.Proofs.YtggfilmdfpmbmaaDoor.QN
end
section
namespace Go.Proofs.YtggfilmdfpmbmaaDoor.QN
open Go.RowKit Go.Proofs.YtggfilmdfpmbmaaDoorW.PrintWords Go.Proofs.YtggfilmdfpmbmaaDoorW.PrintLast Go.Proofs.YtggfilmdfpmbmaaDoorW.PrintMore
attribute [local go_sem] max2_int min2_int max_two min_two max_three min_three max_four min_four   -- for this text's walks alone
set_option linter.unusedVariables false
set_option linter.unusedSimpArgs false
attribute [local go_sem high] eqA29
def I1isDay.f (a0 : Int) : Option (Bool) := if a0 ≥ 0 then (some (decide (a0 ≤ 1048576))) else (some false)
set_option maxHeartbeats 8000000 in
set_option maxRecDepth 100000 in
theorem I1isDay.calls (a0 : Int) (r : Bool) (w : World) (h : I1isDay.f a0 = some r) :
 Calls Tryd.prog 29 #[.int .i64 a0] w fun e w' => e = .returned (.bool r) ∧ Drawn0 w w' := by
 have H : (if a0 ≥ 0 then (some (decide (a0 ≤ 1048576))) else (some false)) = some r := h
 clear h
 by_cases c2 : a0 ≥ 0
 ·rw [if_pos c2] at H
  have c2b0 := decide_eq_true c2
  clear c2
  obtain rfl := Option.some.inj H
  go_enter Tryd.func29, Tryd.ntmps29
  go_wp2
  go_ret
  exact ⟨by first | rfl | (simp; done) | (simp [*]; done), by repeat (first | exact Drawn0.refl _ | apply Drawn0.step)⟩
 ·rw [if_neg c2] at H
  have c2b0 := decide_eq_false c2
  clear c2
  obtain rfl := Option.some.inj H
  go_enter Tryd.func29, Tryd.ntmps29
  go_wp2
  go_ret
  exact ⟨by first | rfl | (simp; done) | (simp [*]; done), by repeat (first | exact Drawn0.refl _ | apply Drawn0.step)⟩
mutual
def I1Check.l0 : Nat → List (S54) → List (S54) → Int → Int → Option (Int)
 | 0, _, _, _, _ => none
 | k + 1, x0, x8, x9, x10 => if x10 < x9 then (if 0 ≤ x10 then (if x10 < (x8.length : Int) then ((I1isDay.f ((rd_T54 x8 x10).f0)).bind fun t780 => (if t780 = true then (if x10 > 0 then (if 0 ≤ (wrap64 (x10 - 1)) then (if (wrap64 (x10 - 1)) < (x0.length : Int) then (I1Check.j1 k x0 x8 x9 x10 (decide (((rd_T54 x8 x10).f0) ≤ ((rd_T54 x0 (wrap64 (x10 - 1))).f0))) ((rd_T54 x8 x10).f0) ((rd_T54 x8 x10).f1.f0) ((rd_T54 x8 x10).f1.f1) ((rd_T54 x8 x10).f1.f2)) else (none)) else (none)) else (I1Check.j1 k x0 x8 x9 x10 false ((rd_T54 x8 x10).f0) ((rd_T54 x8 x10).f1.f0) ((rd_T54 x8 x10).f1.f1) ((rd_T54 x8 x10).f1.f2))) else (some 1))) else (none)) else (none)) else (some 0)
def I1Check.j1 : Nat → List (S54) → List (S54) → Int → Int → Bool → Int → Bool → ByteArray → ByteArray → Option (Int)
 | 0, _, _, _, _, _, _, _, _, _ => none
 | k + 1, x0, x8, x9, x10, x20, x780000, x780001, x780002, x780003 => if x20 = true then (some 15) else ((Q1Sign.f k x780001 x780002 x780003).bind fun t782 => (if t782 < 0 then (some 7) else (I1Check.l0 k x0 x8 x9 (wrap64 (x10 + 1)))))
end
def I1Check.f (k : Nat) (l0 : List (S54)) : Option (Int) := if (l0.length : Int) > 64 then (some 2) else (I1Check.l0 k l0 l0 (l0.length : Int) 0)
set_option maxHeartbeats 8000000 in
set_option maxRecDepth 100000 in
theorem I1Check.calls (k : Nat) (A0 : Option Addr) (c0 : Nat) (l0 : List (S54)) (r : Int) (w : World) (hr0 : Kd.C k54 w A0 l0.length l0) (hc0 : l0.length ≤ c0) (h : I1Check.f k l0 = some r) :
 Calls Tryd.prog 12 #[.slice A0 l0.length c0] w fun e w' => e = .returned (.int .i64 r) ∧ Below w.heap.size w w' := by
 have hu54 := Tryd.underlying54
 have hu29 := Tryd.underlying29
 have HR0 := Aside0.mk hr0
 have HC0 := Aside0.mk hc0
 clear hr0 hc0
 have HB := Aside0.mk (Below.refl w.heap.size w)
 have H : (if (l0.length : Int) > 64 then (some 2) else (I1Check.l0 k l0 l0 (l0.length : Int) 0)) = some r := h
 clear h
 by_cases c2 : (l0.length : Int) > 64
 ·rw [if_pos c2] at H
  have c2b0 := decide_eq_true c2
  have c2b1 : decide (64 < l0.length) = true := decide_eq_true (by omega)
  clear c2
  obtain rfl := Option.some.inj H
  go_enter Tryd.func12, Tryd.ntmps12
  go_wp2
  repeat (go_quiet (fail); try go_wp2)
  go_ret
  exact ⟨zE, zH⟩
 ·rw [if_neg c2] at H
  have c2b0 := decide_eq_false c2
  have c2b1 : decide (64 < l0.length) = false := decide_eq_false (by omega)
  clear c2
  have H' := Aside0.mk H
  clear H
  go_enter Tryd.func12, Tryd.ntmps12
  go_wp2
  repeat (go_quiet (fail); try go_wp2)
  go_loopg [10] k (fun kq v10 w' => ∃ (x10_1 : Int), v10 = .int .i64 x10_1 ∧ Aside0 (I1Check.l0 kq l0 l0 (l0.length : Int) x10_1 = some r) ∧ Aside0 (kq ≤ k) ∧ Aside0 (Below w.heap.size w w'))
  case atStart => exact ⟨(0), zq1, H', ⟨Nat.le_refl _⟩, ⟨zH⟩⟩
  case round =>
   clear H'
   (try clear c1); (try clear c2); (try clear c2b0); (try clear c2b1); (try clear p2)
   obtain ⟨x10_1, rfl, HA, HK1, HB⟩ := hrel
   cases gk with
   | zero => exact absurd HA.out (by simp [I1Check.l0])
   | succ k1 =>
    have H := HA.out
    clear HA
    simp only [I1Check.l0] at H
    by_cases c3 : x10_1 < (l0.length : Int)
    ·rw [if_pos c3] at H
     have c3b0 := decide_eq_true c3
     clear c3
     replace H := of_ite H
     obtain ⟨c4, H⟩ := H
     have c4b0 := decide_eq_true c4
     clear c4
     replace H := of_ite H
     obtain ⟨c5, H⟩ := H
     have c5b0 := decide_eq_true c5
     clear c5
     replace H := Option.bind_eq_some_iff.mp H
     obtain ⟨t780, A60, H⟩ := H
     (try dsimp only at H)
     have A6 := Aside0.mk A60
     clear A60
     by_cases c7 : t780 = true
     ·subst c7
      have H1 : (if x10_1 > 0 then (if 0 ≤ (wrap64 (x10_1 - 1)) then (if (wrap64 (x10_1 - 1)) < (l0.length : Int) then (I1Check.j1 k1 l0 l0 (l0.length : Int) x10_1 (decide (((rd_T54 l0 x10_1).f0) ≤ ((rd_T54 l0 (wrap64 (x10_1 - 1))).f0))) ((rd_T54 l0 x10_1).f0) ((rd_T54 l0 x10_1).f1.f0) ((rd_T54 l0 x10_1).f1.f1) ((rd_T54 l0 x10_1).f1.f2)) else (none)) else (none)) else (I1Check.j1 k1 l0 l0 (l0.length : Int) x10_1 false ((rd_T54 l0 x10_1).f0) ((rd_T54 l0 x10_1).f1.f0) ((rd_T54 l0 x10_1).f1.f1) ((rd_T54 l0 x10_1).f1.f2))) = some r := by rw [if_pos rfl] at H; exact H
      clear H
      have H := H1
      clear H1
      have HC8 := Aside0.mk H
      clear H
      have p778 : 0 ≤ (x10_1 : Int) := of_decide_eq_true zq0
      have q778 : x10_1 < (l0.length : Int) := of_decide_eq_true zq0
      obtain ⟨ad778, e778, hx778_0, hx778_1, hx778_2, hx778_3⟩ := at_T54 HR0.out x10_1 p778 q778
      cases e778
      (try replace hx778_0 := (HB.out.cell (World.block_lt_of_cell? w _ hx778_0)).trans hx778_0)
      (try replace hx778_1 := (HB.out.cell (World.block_lt_of_cell? w _ hx778_1)).trans hx778_1)
      (try replace hx778_2 := (HB.out.cell (World.block_lt_of_cell? w _ hx778_2)).trans hx778_2)
      (try replace hx778_3 := (HB.out.cell (World.block_lt_of_cell? w _ hx778_3)).trans hx778_3)
      replace p778 := eq_true p778
      replace q778 := eq_true q778
      go_upto_region 8 with (first | (refine box_evA 4 #[.int .i64 0, .bool false, .string (⟨#[]⟩ : ByteArray), .string (⟨#[]⟩ : ByteArray)] 54 ?_; intro gb779 hg w9 hbox hb; have n0_ := sB hb; have n1_ := Aside0.mk (hbox); have n2_ := wE w hg; have n3_ := wE w hg; revert n0_ n1_ n2_ n3_; clear HB; intro HB BK779 GW779 GE779; clear hb hbox hg; have hcz10_0 := cB BK779 0 (.int .i64 0); have hcz10_1 := cB BK779 1 (.bool false); have hcz10_2 := cB BK779 2 (.string (⟨#[]⟩ : ByteArray)); have hcz10_3 := cB BK779 3 (.string (⟨#[]⟩ : ByteArray)); have hfz10_0 := blk_frozen BK779.out 0; have hfz10_1 := blk_frozen BK779.out 1; have hfz10_2 := blk_frozen BK779.out 2; have hfz10_3 := blk_frozen BK779.out 3) | (go_at_call 29; (with_reducible refine (I1isDay.calls ((rd_T54 l0 x10_1).f0) true _ A6.out).mono ?_); rintro e w' ⟨rfl, ⟨nd, rfl⟩⟩; (try first | exact ⟨rfl, _, World.drewN_drewN _ _ _⟩ | exact ⟨rfl, _, Eq.trans (World.drewN_drewN _ _ _) (congrArg (World.drewN _) (Nat.add_assoc _ _ _))⟩)))
      repeat (go_quiet (first | (refine box_evA 4 #[.int .i64 0, .bool false, .string (⟨#[]⟩ : ByteArray), .string (⟨#[]⟩ : ByteArray)] 54 ?_; intro gb779 hg w9 hbox hb; have n0_ := sB hb; have n1_ := Aside0.mk (hbox); have n2_ := wE w hg; have n3_ := wE w hg; revert n0_ n1_ n2_ n3_; clear HB; intro HB BK779 GW779 GE779; clear hb hbox hg; have hcz10_0 := cB BK779 0 (.int .i64 0); have hcz10_1 := cB BK779 1 (.bool false); have hcz10_2 := cB BK779 2 (.string (⟨#[]⟩ : ByteArray)); have hcz10_3 := cB BK779 3 (.string (⟨#[]⟩ : ByteArray)); have hfz10_0 := blk_frozen BK779.out 0; have hfz10_1 := blk_frozen BK779.out 1; have hfz10_2 := blk_frozen BK779.out 2; have hfz10_3 := blk_frozen BK779.out 3) | (go_at_call 29; (with_reducible refine (I1isDay.calls ((rd_T54 l0 x10_1).f0) true _ A6.out).mono ?_); rintro e w' ⟨rfl, ⟨nd, rfl⟩⟩; (try first | exact ⟨rfl, _, World.drewN_drewN _ _ _⟩ | exact ⟨rfl, _, Eq.trans (World.drewN_drewN _ _ _) (congrArg (World.drewN _) (Nat.add_assoc _ _ _))⟩))); go_upto_region 8 with (first | (refine box_evA 4 #[.int .i64 0, .bool false, .string (⟨#[]⟩ : ByteArray), .string (⟨#[]⟩ : ByteArray)] 54 ?_; intro gb779 hg w9 hbox hb; have n0_ := sB hb; have n1_ := Aside0.mk (hbox); have n2_ := wE w hg; have n3_ := wE w hg; revert n0_ n1_ n2_ n3_; clear HB; intro HB BK779 GW779 GE779; clear hb hbox hg; have hcz10_0 := cB BK779 0 (.int .i64 0); have hcz10_1 := cB BK779 1 (.bool false); have hcz10_2 := cB BK779 2 (.string (⟨#[]⟩ : ByteArray)); have hcz10_3 := cB BK779 3 (.string (⟨#[]⟩ : ByteArray)); have hfz10_0 := blk_frozen BK779.out 0; have hfz10_1 := blk_frozen BK779.out 1; have hfz10_2 := blk_frozen BK779.out 2; have hfz10_3 := blk_frozen BK779.out 3) | (go_at_call 29; (with_reducible refine (I1isDay.calls ((rd_T54 l0 x10_1).f0) true _ A6.out).mono ?_); rintro e w' ⟨rfl, ⟨nd, rfl⟩⟩; (try first | exact ⟨rfl, _, World.drewN_drewN _ _ _⟩ | exact ⟨rfl, _, Eq.trans (World.drewN_drewN _ _ _) (congrArg (World.drewN _) (Nat.add_assoc _ _ _))⟩))))
      (try simp only [Act.put, List.setIfInBounds_toArray, List.set_cons_zero, List.set_cons_succ])
      go_cut [20] (fun v20 wc => ∃ (kq : Nat) (x20_7 : Bool), v20 = .bool x20_7 ∧ Aside0 (I1Check.j1 kq l0 l0 (l0.length : Int) x10_1 x20_7 ((rd_T54 l0 x10_1).f0) ((rd_T54 l0 x10_1).f1.f0) ((rd_T54 l0 x10_1).f1.f1) ((rd_T54 l0 x10_1).f1.f2) = some r) ∧ Aside0 (kq ≤ k1) ∧ Aside0 (wc.heap[gb779]? = some (.cells #[.int .i64 ((rd_T54 l0 x10_1).f0), .bool ((rd_T54 l0 x10_1).f1.f0), .string ((rd_T54 l0 x10_1).f1.f1), .string ((rd_T54 l0 x10_1).f1.f2)] 54 (0, 0))) ∧ Aside0 (Below w.heap.size w wc))
      case first =>
       have H := HC8.out
       clear HC8
       by_cases c11 : x10_1 > 0
       ·rw [if_pos c11] at H
        have c11b0 := decide_eq_true c11
        clear c11
        (first | rw [c11b0] | (simp only [i64_w, i32_w]; rw [c11b0]) | rw [c11b1] | skip)
        obtain ⟨ji12, hji12⟩ : ∃ j_ : Int, (wrap64 (x10_1 - 1)) = j_ := ⟨_, rfl⟩
        first | rw [hji12] at H | simp only [hji12] at H
        have hji12w : (IntKind.i64.wrap (x10_1 - 1)) = ji12 := (i64_w _).trans hji12
        replace H := of_ite H
        obtain ⟨c13, H⟩ := H
        have c13b0 := decide_eq_true c13
        clear c13
        replace H := of_ite H
        obtain ⟨c14, H⟩ := H
        have c14b0 := decide_eq_true c14
        clear c14
        have H' := Aside0.mk H
        clear H
        have hcz15_0 := cB BK779 0 (.int .i64 0)
        have hcz15_1 := cB BK779 1 (.bool false)
        have hcz15_2 := cB BK779 2 (.string (⟨#[]⟩ : ByteArray))
        have hcz15_3 := cB BK779 3 (.string (⟨#[]⟩ : ByteArray))
        have hfz15_0 := blk_frozen BK779.out 0
        have hfz15_1 := blk_frozen BK779.out 1
        have hfz15_2 := blk_frozen BK779.out 2
        have hfz15_3 := blk_frozen BK779.out 3
        have p781 : 0 ≤ ((ji12) : Int) := of_decide_eq_true zq0
        have q781 : (ji12) < (l0.length : Int) := of_decide_eq_true zq0
        obtain ⟨ad781, e781, hx781_0, hx781_1, hx781_2, hx781_3⟩ := at_T54 HR0.out (ji12) p781 q781
        obtain rfl : ad778 = ad781 := (by injection e781)
        have hn781_0 : ad778.block ≠ gb779 := Nat.ne_of_lt (Nat.lt_of_lt_of_le (by have := World.block_lt_of_cell? _ _ hx781_0; first | rwa [add_block] at this | exact this) GW779.out)
        have hn781_1 : ad778.block ≠ gb779 := Nat.ne_of_lt (Nat.lt_of_lt_of_le (by have := World.block_lt_of_cell? _ _ hx781_0; first | rwa [add_block] at this | exact this) GW779.out)
        have hn781_2 : ad778.block ≠ gb779 := Nat.ne_of_lt (Nat.lt_of_lt_of_le (by have := World.block_lt_of_cell? _ _ hx781_0; first | rwa [add_block] at this | exact this) GW779.out)
        have hn781_3 : ad778.block ≠ gb779 := Nat.ne_of_lt (Nat.lt_of_lt_of_le (by have := World.block_lt_of_cell? _ _ hx781_0; first | rwa [add_block] at this | exact this) GW779.out)
        (try replace hx781_0 := (HB.out.cell (World.block_lt_of_cell? w _ hx781_0)).trans hx781_0)
        (try replace hx781_1 := (HB.out.cell (World.block_lt_of_cell? w _ hx781_1)).trans hx781_1)
        (try replace hx781_2 := (HB.out.cell (World.block_lt_of_cell? w _ hx781_2)).trans hx781_2)
        (try replace hx781_3 := (HB.out.cell (World.block_lt_of_cell? w _ hx781_3)).trans hx781_3)
        replace hx781_0 := (cell_far (p := ⟨gb779, 0, none⟩) zq31 (.int .i64 ((rd_T54 l0 x10_1).f0))).trans hx781_0
        replace hx781_1 := (cell_far (p := ⟨gb779, 0, none⟩) zq31 (.int .i64 ((rd_T54 l0 x10_1).f0))).trans hx781_1
        replace hx781_2 := (cell_far (p := ⟨gb779, 0, none⟩) zq31 (.int .i64 ((rd_T54 l0 x10_1).f0))).trans hx781_2
        replace hx781_3 := (cell_far (p := ⟨gb779, 0, none⟩) zq31 (.int .i64 ((rd_T54 l0 x10_1).f0))).trans hx781_3
        replace hx781_0 := (cell_far (p := ⟨gb779, 1, none⟩) zq32 (.bool ((rd_T54 l0 x10_1).f1.f0))).trans hx781_0
        replace hx781_1 := (cell_far (p := ⟨gb779, 1, none⟩) zq32 (.bool ((rd_T54 l0 x10_1).f1.f0))).trans hx781_1
        replace hx781_2 := (cell_far (p := ⟨gb779, 1, none⟩) zq32 (.bool ((rd_T54 l0 x10_1).f1.f0))).trans hx781_2
        replace hx781_3 := (cell_far (p := ⟨gb779, 1, none⟩) zq32 (.bool ((rd_T54 l0 x10_1).f1.f0))).trans hx781_3
        replace hx781_0 := (cell_far (p := ⟨gb779, 2, none⟩) zq33 (.string ((rd_T54 l0 x10_1).f1.f1))).trans hx781_0
        replace hx781_1 := (cell_far (p := ⟨gb779, 2, none⟩) zq33 (.string ((rd_T54 l0 x10_1).f1.f1))).trans hx781_1
        replace hx781_2 := (cell_far (p := ⟨gb779, 2, none⟩) zq33 (.string ((rd_T54 l0 x10_1).f1.f1))).trans hx781_2
        replace hx781_3 := (cell_far (p := ⟨gb779, 2, none⟩) zq33 (.string ((rd_T54 l0 x10_1).f1.f1))).trans hx781_3
        replace hx781_0 := (cell_far (p := ⟨gb779, 3, none⟩) zq34 (.string ((rd_T54 l0 x10_1).f1.f2))).trans hx781_0
        replace hx781_1 := (cell_far (p := ⟨gb779, 3, none⟩) zq34 (.string ((rd_T54 l0 x10_1).f1.f2))).trans hx781_1
        replace hx781_2 := (cell_far (p := ⟨gb779, 3, none⟩) zq34 (.string ((rd_T54 l0 x10_1).f1.f2))).trans hx781_2
        replace hx781_3 := (cell_far (p := ⟨gb779, 3, none⟩) zq34 (.string ((rd_T54 l0 x10_1).f1.f2))).trans hx781_3
        (try have hy781_0 := fun (n_ : Nat) => (show ((((((w9.drewN n_).setCell ⟨gb779, 0, none⟩ (.int .i64 ((rd_T54 l0 x10_1).f0))).setCell ⟨gb779, 1, none⟩ (.bool ((rd_T54 l0 x10_1).f1.f0))).setCell ⟨gb779, 2, none⟩ (.string ((rd_T54 l0 x10_1).f1.f1))).setCell ⟨gb779, 3, none⟩ (.string ((rd_T54 l0 x10_1).f1.f2)))).cell? _ = some _ from hx781_0))
        (try have hy781_1 := fun (n_ : Nat) => (show ((((((w9.drewN n_).setCell ⟨gb779, 0, none⟩ (.int .i64 ((rd_T54 l0 x10_1).f0))).setCell ⟨gb779, 1, none⟩ (.bool ((rd_T54 l0 x10_1).f1.f0))).setCell ⟨gb779, 2, none⟩ (.string ((rd_T54 l0 x10_1).f1.f1))).setCell ⟨gb779, 3, none⟩ (.string ((rd_T54 l0 x10_1).f1.f2)))).cell? _ = some _ from hx781_1))
        (try have hy781_2 := fun (n_ : Nat) => (show ((((((w9.drewN n_).setCell ⟨gb779, 0, none⟩ (.int .i64 ((rd_T54 l0 x10_1).f0))).setCell ⟨gb779, 1, none⟩ (.bool ((rd_T54 l0 x10_1).f1.f0))).setCell ⟨gb779, 2, none⟩ (.string ((rd_T54 l0 x10_1).f1.f1))).setCell ⟨gb779, 3, none⟩ (.string ((rd_T54 l0 x10_1).f1.f2)))).cell? _ = some _ from hx781_2))
        (try have hy781_3 := fun (n_ : Nat) => (show ((((((w9.drewN n_).setCell ⟨gb779, 0, none⟩ (.int .i64 ((rd_T54 l0 x10_1).f0))).setCell ⟨gb779, 1, none⟩ (.bool ((rd_T54 l0 x10_1).f1.f0))).setCell ⟨gb779, 2, none⟩ (.string ((rd_T54 l0 x10_1).f1.f1))).setCell ⟨gb779, 3, none⟩ (.string ((rd_T54 l0 x10_1).f1.f2)))).cell? _ = some _ from hx781_3))
        clear hn781_0 hn781_1 hn781_2 hn781_3
        replace p781 := eq_true p781
        replace q781 := eq_true q781
        go_wp2
        repeat (go_quiet (fail); try go_wp2)
        go_meet
        case rel => exact ⟨_, (decide (((rd_T54 l0 x10_1).f0) ≤ ((rd_T54 l0 (ji12)).f0))), (by first | rfl | (simp; done) | (simp only [← hji12] <;> (first | rfl | simp)) | (simp [*]; done)), H', ⟨by have := HK1.out; first | omega | exact Nat.le_refl _⟩, ⟨bC BK779⟩, ⟨zH⟩⟩
       ·rw [if_neg c11] at H
        have c11b0 := decide_eq_false c11
        clear c11
        (first | rw [c11b0] | (simp only [i64_w, i32_w]; rw [c11b0]) | rw [c11b1] | skip)
        have H' := Aside0.mk H
        clear H
        go_wp2
        repeat (go_quiet (fail); try go_wp2)
        go_meet
        case rel => exact ⟨_, (false), zq1, H', ⟨by have := HK1.out; first | omega | exact Nat.le_refl _⟩, ⟨bC BK779⟩, ⟨zH⟩⟩
      case rest =>
       clear HC8
       (try clear c1); (try clear c2); (try clear c2b0); (try clear c2b1); (try clear p2); (try clear c3); (try clear c3b0); (try clear c4); (try clear c4b0); (try clear c5); (try clear c5b0); (try clear p6); (try clear c7); (try clear p7); (try clear q7); (try clear hx7); (try clear c11); (try clear c11b0); (try clear c11b1); (try clear c12); (try clear c13); (try clear c13b0); (try clear c14); (try clear c14b0); (try clear hcz10_0); (try clear hcz10_1); (try clear hcz10_2); (try clear hcz10_3); (try clear hcz15_0); (try clear hcz15_1); (try clear hcz15_2); (try clear hcz15_3); (try clear hfz10_0); (try clear hfz10_1); (try clear hfz10_2); (try clear hfz10_3); (try clear hfz15_0); (try clear hfz15_1); (try clear hfz15_2); (try clear hfz15_3); (try clear hx778_0); (try clear hx778_1); (try clear hx778_2); (try clear hx778_3); (try clear hx781_0); (try clear hx781_1); (try clear hx781_2); (try clear hx781_3); (try clear p2); (try clear p778); (try clear p781); (try clear q778); (try clear q781)
       obtain ⟨kq, x20_7, rfl, HA, HJ7, BK779, HB⟩ := hcut
       cases kq with
       | zero => exact absurd HA.out (by simp [I1Check.j1])
       | succ kj7 =>
        have H := HA.out
        clear HA
        simp only [I1Check.j1] at H
        by_cases c16 : x20_7 = true
        ·subst c16
         have H1 : (some 15) = some r := by rw [if_pos rfl] at H; exact H
         clear H
         have H := H1
         clear H1
         obtain rfl := Option.some.inj H
         go_wp2
         repeat (go_quiet (fail); try go_wp2)
         go_ret
         exact ⟨zE, zH⟩
        ·replace c16 := Bool.eq_false_iff.mpr c16
         subst c16
         have H1 : ((Q1Sign.f kj7 ((rd_T54 l0 x10_1).f1.f0) ((rd_T54 l0 x10_1).f1.f1) ((rd_T54 l0 x10_1).f1.f2)).bind fun t782 => (if t782 < 0 then (some 7) else (I1Check.l0 kj7 l0 l0 (l0.length : Int) (wrap64 (x10_1 + 1))))) = some r := by rw [if_neg (show ¬ (false = true) by decide)] at H; exact H
         clear H
         have H := H1
         clear H1
         replace H := Option.bind_eq_some_iff.mp H
         obtain ⟨t782, A170, H⟩ := H
         (try dsimp only at H)
         have A17 := Aside0.mk A170
         clear A170
         by_cases c18 : t782 < 0
         ·rw [if_pos c18] at H
          have c18b0 := decide_eq_true c18
          clear c18
          obtain rfl := Option.some.inj H
          have hcz19_0 := cB BK779 0 (.int .i64 ((rd_T54 l0 x10_1).f0))
          have hcz19_1 := cB BK779 1 (.bool ((rd_T54 l0 x10_1).f1.f0))
          have hcz19_2 := cB BK779 2 (.string ((rd_T54 l0 x10_1).f1.f1))
          have hcz19_3 := cB BK779 3 (.string ((rd_T54 l0 x10_1).f1.f2))
          have hfz19_0 := blk_frozen BK779.out 0
          have hfz19_1 := blk_frozen BK779.out 1
          have hfz19_2 := blk_frozen BK779.out 2
          have hfz19_3 := blk_frozen BK779.out 3
          go_wp2_with (first | (go_at_call 30; (with_reducible refine (Q1Sign.calls kj7 ((rd_T54 l0 x10_1).f1.f0) ((rd_T54 l0 x10_1).f1.f1) ((rd_T54 l0 x10_1).f1.f2) t782 _ A17.out).mono ?_); rintro e w20 ⟨rfl, hb⟩; have n0_ := bB BK779 hb; have n1_ := sB hb; revert n0_ n1_; clear BK779 HB; intro BK779 HB; (try clear hb); (try clear hb2); (try clear hk); (try clear hi)))
          repeat (go_quiet (first | (go_at_call 30; (with_reducible refine (Q1Sign.calls kj7 ((rd_T54 l0 x10_1).f1.f0) ((rd_T54 l0 x10_1).f1.f1) ((rd_T54 l0 x10_1).f1.f2) t782 _ A17.out).mono ?_); rintro e w20 ⟨rfl, hb⟩; have n0_ := bB BK779 hb; have n1_ := sB hb; revert n0_ n1_; clear BK779 HB; intro BK779 HB; (try clear hb); (try clear hb2); (try clear hk); (try clear hi))); try go_wp2_with (first | (go_at_call 30; (with_reducible refine (Q1Sign.calls kj7 ((rd_T54 l0 x10_1).f1.f0) ((rd_T54 l0 x10_1).f1.f1) ((rd_T54 l0 x10_1).f1.f2) t782 _ A17.out).mono ?_); rintro e w20 ⟨rfl, hb⟩; have n0_ := bB BK779 hb; have n1_ := sB hb; revert n0_ n1_; clear BK779 HB; intro BK779 HB; (try clear hb); (try clear hb2); (try clear hk); (try clear hi))))
          go_ret
          exact ⟨zE, zH⟩
         ·rw [if_neg c18] at H
          have c18b0 := decide_eq_false c18
          clear c18
          have H' := Aside0.mk H
          clear H
          have hcz21_0 := cB BK779 0 (.int .i64 ((rd_T54 l0 x10_1).f0))
          have hcz21_1 := cB BK779 1 (.bool ((rd_T54 l0 x10_1).f1.f0))
          have hcz21_2 := cB BK779 2 (.string ((rd_T54 l0 x10_1).f1.f1))
          have hcz21_3 := cB BK779 3 (.string ((rd_T54 l0 x10_1).f1.f2))
          have hfz21_0 := blk_frozen BK779.out 0
          have hfz21_1 := blk_frozen BK779.out 1
          have hfz21_2 := blk_frozen BK779.out 2
          have hfz21_3 := blk_frozen BK779.out 3
          go_wp2_with (first | (go_at_call 30; (with_reducible refine (Q1Sign.calls kj7 ((rd_T54 l0 x10_1).f1.f0) ((rd_T54 l0 x10_1).f1.f1) ((rd_T54 l0 x10_1).f1.f2) t782 _ A17.out).mono ?_); rintro e w22 ⟨rfl, hb⟩; have n0_ := bB BK779 hb; have n1_ := sB hb; revert n0_ n1_; clear BK779 HB; intro BK779 HB; (try clear hb); (try clear hb2); (try clear hk); (try clear hi)))
          repeat (go_quiet (first | (go_at_call 30; (with_reducible refine (Q1Sign.calls kj7 ((rd_T54 l0 x10_1).f1.f0) ((rd_T54 l0 x10_1).f1.f1) ((rd_T54 l0 x10_1).f1.f2) t782 _ A17.out).mono ?_); rintro e w22 ⟨rfl, hb⟩; have n0_ := bB BK779 hb; have n1_ := sB hb; revert n0_ n1_; clear BK779 HB; intro BK779 HB; (try clear hb); (try clear hb2); (try clear hk); (try clear hi))); try go_wp2_with (first | (go_at_call 30; (with_reducible refine (Q1Sign.calls kj7 ((rd_T54 l0 x10_1).f1.f0) ((rd_T54 l0 x10_1).f1.f1) ((rd_T54 l0 x10_1).f1.f2) t782 _ A17.out).mono ?_); rintro e w22 ⟨rfl, hb⟩; have n0_ := bB BK779 hb; have n1_ := sB hb; revert n0_ n1_; clear BK779 HB; intro BK779 HB; (try clear hb); (try clear hb2); (try clear hk); (try clear hi))))
          go_roundg kj7
          case measure => have := HK1.out; have := HJ7.out; omega
          case rel => exact ⟨(wrap64 (x10_1 + 1)), zq1, H', ⟨by have := HK1.out; have := HJ7.out; omega⟩, ⟨zH⟩⟩
     ·replace c7 := Bool.eq_false_iff.mpr c7
      subst c7
      have H1 : (some 1) = some r := by rw [if_neg (show ¬ (false = true) by decide)] at H; exact H
      clear H
      have H := H1
      clear H1
      obtain rfl := Option.some.inj H
      have p778 : 0 ≤ (x10_1 : Int) := of_decide_eq_true zq0
      have q778 : x10_1 < (l0.length : Int) := of_decide_eq_true zq0
      obtain ⟨ad778, e778, hx778_0, hx778_1, hx778_2, hx778_3⟩ := at_T54 HR0.out x10_1 p778 q778
      cases e778
      (try replace hx778_0 := (HB.out.cell (World.block_lt_of_cell? w _ hx778_0)).trans hx778_0)
      (try replace hx778_1 := (HB.out.cell (World.block_lt_of_cell? w _ hx778_1)).trans hx778_1)
      (try replace hx778_2 := (HB.out.cell (World.block_lt_of_cell? w _ hx778_2)).trans hx778_2)
      (try replace hx778_3 := (HB.out.cell (World.block_lt_of_cell? w _ hx778_3)).trans hx778_3)
      replace p778 := eq_true p778
      replace q778 := eq_true q778
      go_wp2_with (first | (refine box_evA 4 #[.int .i64 0, .bool false, .string (⟨#[]⟩ : ByteArray), .string (⟨#[]⟩ : ByteArray)] 54 ?_; intro gb779 hg w23 hbox hb; have n0_ := sB hb; have n1_ := Aside0.mk (hbox); have n2_ := wE w hg; have n3_ := wE w hg; revert n0_ n1_ n2_ n3_; clear HB; intro HB BK779 GW779 GE779; clear hb hbox hg; have hcz24_0 := cB BK779 0 (.int .i64 0); have hcz24_1 := cB BK779 1 (.bool false); have hcz24_2 := cB BK779 2 (.string (⟨#[]⟩ : ByteArray)); have hcz24_3 := cB BK779 3 (.string (⟨#[]⟩ : ByteArray)); have hfz24_0 := blk_frozen BK779.out 0; have hfz24_1 := blk_frozen BK779.out 1; have hfz24_2 := blk_frozen BK779.out 2; have hfz24_3 := blk_frozen BK779.out 3) | (go_at_call 29; (with_reducible refine (I1isDay.calls ((rd_T54 l0 x10_1).f0) false _ A6.out).mono ?_); rintro e w' ⟨rfl, ⟨nd, rfl⟩⟩; (try first | exact ⟨rfl, _, World.drewN_drewN _ _ _⟩ | exact ⟨rfl, _, Eq.trans (World.drewN_drewN _ _ _) (congrArg (World.drewN _) (Nat.add_assoc _ _ _))⟩)))
      repeat (go_quiet (first | (refine box_evA 4 #[.int .i64 0, .bool false, .string (⟨#[]⟩ : ByteArray), .string (⟨#[]⟩ : ByteArray)] 54 ?_; intro gb779 hg w23 hbox hb; have n0_ := sB hb; have n1_ := Aside0.mk (hbox); have n2_ := wE w hg; have n3_ := wE w hg; revert n0_ n1_ n2_ n3_; clear HB; intro HB BK779 GW779 GE779; clear hb hbox hg; have hcz24_0 := cB BK779 0 (.int .i64 0); have hcz24_1 := cB BK779 1 (.bool false); have hcz24_2 := cB BK779 2 (.string (⟨#[]⟩ : ByteArray)); have hcz24_3 := cB BK779 3 (.string (⟨#[]⟩ : ByteArray)); have hfz24_0 := blk_frozen BK779.out 0; have hfz24_1 := blk_frozen BK779.out 1; have hfz24_2 := blk_frozen BK779.out 2; have hfz24_3 := blk_frozen BK779.out 3) | (go_at_call 29; (with_reducible refine (I1isDay.calls ((rd_T54 l0 x10_1).f0) false _ A6.out).mono ?_); rintro e w' ⟨rfl, ⟨nd, rfl⟩⟩; (try first | exact ⟨rfl, _, World.drewN_drewN _ _ _⟩ | exact ⟨rfl, _, Eq.trans (World.drewN_drewN _ _ _) (congrArg (World.drewN _) (Nat.add_assoc _ _ _))⟩))); try go_wp2_with (first | (refine box_evA 4 #[.int .i64 0, .bool false, .string (⟨#[]⟩ : ByteArray), .string (⟨#[]⟩ : ByteArray)] 54 ?_; intro gb779 hg w23 hbox hb; have n0_ := sB hb; have n1_ := Aside0.mk (hbox); have n2_ := wE w hg; have n3_ := wE w hg; revert n0_ n1_ n2_ n3_; clear HB; intro HB BK779 GW779 GE779; clear hb hbox hg; have hcz24_0 := cB BK779 0 (.int .i64 0); have hcz24_1 := cB BK779 1 (.bool false); have hcz24_2 := cB BK779 2 (.string (⟨#[]⟩ : ByteArray)); have hcz24_3 := cB BK779 3 (.string (⟨#[]⟩ : ByteArray)); have hfz24_0 := blk_frozen BK779.out 0; have hfz24_1 := blk_frozen BK779.out 1; have hfz24_2 := blk_frozen BK779.out 2; have hfz24_3 := blk_frozen BK779.out 3) | (go_at_call 29; (with_reducible refine (I1isDay.calls ((rd_T54 l0 x10_1).f0) false _ A6.out).mono ?_); rintro e w' ⟨rfl, ⟨nd, rfl⟩⟩; (try first | exact ⟨rfl, _, World.drewN_drewN _ _ _⟩ | exact ⟨rfl, _, Eq.trans (World.drewN_drewN _ _ _) (congrArg (World.drewN _) (Nat.add_assoc _ _ _))⟩))))
      go_ret
      exact ⟨zE, zH⟩
    ·rw [if_neg c3] at H
     have c3b0 := decide_eq_false c3
     clear c3
     obtain rfl := Option.some.inj H
     go_wp2
     repeat (go_quiet (fail); try go_wp2)
     go_ret
     exact ⟨zE, zH⟩
def I1check.j0 : Nat → Int → Int → Bool → Bool → ByteArray → ByteArray → Option (Int)
 | 0, _, _, _, _, _, _ => none
 | k + 1, x2, x3, x20, x784000, x784001, x784002 => if x20 = true then (some 1) else (if x3 < x2 then (some 15) else ((Q1Sign.f k x784000 x784001 x784002).bind fun t787 => (if t787 < 0 then (some 7) else (some 0))))
def I1check.f (k : Nat) (a0_0 : Bool) (a0_1 : ByteArray) (a0_2 : ByteArray) (l1 : List (S54)) (a2 : Int) (a3 : Int) (a4 : Int) (a5 : Int) : Option (Int) := (I1Check.f k l1).bind fun t784 => (if t784 = 0 then ((I1isDay.f a2).bind fun t785 => (if t785 = true then ((I1isDay.f a3).bind fun t786 => (if t786 = true then (if a4 = 360 then (I1check.j0 k a2 a3 (decide (a5 < 1)) a0_0 a0_1 a0_2) else (if a4 = 365 then (I1check.j0 k a2 a3 (decide (a5 < 1)) a0_0 a0_1 a0_2) else (I1check.j0 k a2 a3 true a0_0 a0_1 a0_2))) else (I1check.j0 k a2 a3 true a0_0 a0_1 a0_2))) else (I1check.j0 k a2 a3 true a0_0 a0_1 a0_2))) else (some t784))
set_option maxHeartbeats 8000000 in
set_option maxRecDepth 100000 in
theorem I1check.calls (k : Nat) (a0_0 : Bool) (a0_1 : ByteArray) (a0_2 : ByteArray) (A1 : Option Addr) (c1 : Nat) (l1 : List (S54)) (a2 : Int) (a3 : Int) (a4 : Int) (a5 : Int) (r : Int) (w : World) (hr1 : Kd.C k54 w A1 l1.length l1) (hc1 : l1.length ≤ c1) (h : I1check.f k a0_0 a0_1 a0_2 l1 a2 a3 a4 a5 = some r) :
 Calls Tryd.prog 33 #[.agg #[.bool a0_0, .string a0_1, .string a0_2], .slice A1 l1.length c1, .int .i64 a2, .int .i64 a3, .int .i64 a4, .int .i64 a5] w fun e w' => e = .returned (.int .i64 r) ∧ Below w.heap.size w w' := by
 have hu29 := Tryd.underlying29
 have HR1 := Aside0.mk hr1
 have HC1 := Aside0.mk hc1
 clear hr1 hc1
 have HB := Aside0.mk (Below.refl w.heap.size w)
 have H : ((I1Check.f k l1).bind fun t784 => (if t784 = 0 then ((I1isDay.f a2).bind fun t785 => (if t785 = true then ((I1isDay.f a3).bind fun t786 => (if t786 = true then (if a4 = 360 then (I1check.j0 k a2 a3 (decide (a5 < 1)) a0_0 a0_1 a0_2) else (if a4 = 365 then (I1check.j0 k a2 a3 (decide (a5 < 1)) a0_0 a0_1 a0_2) else (I1check.j0 k a2 a3 true a0_0 a0_1 a0_2))) else (I1check.j0 k a2 a3 true a0_0 a0_1 a0_2))) else (I1check.j0 k a2 a3 true a0_0 a0_1 a0_2))) else (some t784))) = some r := h
 clear h
 replace H := Option.bind_eq_some_iff.mp H
 obtain ⟨t784, A70, H⟩ := H
 (try dsimp only at H)
 have A7 := Aside0.mk A70
 clear A70
 by_cases c8 : t784 = 0
 ·rw [if_pos c8] at H
  have c8b0 := beq_iff_eq.mpr c8
  have c8b1 : (t784 != 0) = false := bne_eq_false_iff_eq.mpr c8
  clear c8
  have HC9 := Aside0.mk H
  clear H
  go_enter Tryd.func33, Tryd.ntmps33
  go_upto_region 4 with (first | (refine box_evA 6 #[.bool a0_0, .string a0_1, .string a0_2] 29 ?_; intro gb783 hg w10 hbox hb; have n0_ := sB hb; have n1_ := Aside0.mk (hbox); have n2_ := wE w hg; have n3_ := wE w hg; revert n0_ n1_ n2_ n3_; clear HB; intro HB BK783 GW783 GE783; clear hb hbox hg) | (refine goesLA 15 Tryd.func12 #[.slice A1 l1.length c1] ?_; (with_reducible refine (I1Check.calls k _ _ l1 t784 _ ?side1 ?side2 A7.out).mono ?_); (case side1 => repeat (first | exact (Kd.C_below HR1.out HB.out) | (with_reducible refine Kd.C_alloc ?_ _) | (with_reducible refine Kd.C_drewN ?_ _) | (with_reducible refine Kd.C_drew ?_))); (case side2 => exact HC1.out); rintro e w11 ⟨rfl, hb⟩; refine ⟨_, rfl, ?_⟩; have n0_ := bB BK783 hb; have n1_ := sB hb; revert n0_ n1_; clear BK783 HB; intro BK783 HB; (try clear hb); (try clear hb2); (try clear hk); (try clear hi)))
  (try simp only [Act.put, List.setIfInBounds_toArray, List.set_cons_zero, List.set_cons_succ])
  go_cut [20] (fun v20 wc => ∃ (kq : Nat) (x20_8 : Bool), v20 = .bool x20_8 ∧ Aside0 (I1check.j0 kq a2 a3 x20_8 a0_0 a0_1 a0_2 = some r) ∧ Aside0 (kq ≤ k) ∧ Aside0 (wc.heap[gb783]? = some (.cells #[.bool a0_0, .string a0_1, .string a0_2] 29 (0, 0))) ∧ Aside0 (Below w.heap.size w wc))
  case first =>
   have H := HC9.out
   clear HC9
   replace H := Option.bind_eq_some_iff.mp H
   obtain ⟨t785, A120, H⟩ := H
   (try dsimp only at H)
   have A12 := Aside0.mk A120
   clear A120
   by_cases c13 : t785 = true
   ·subst c13
    have H1 : ((I1isDay.f a3).bind fun t786 => (if t786 = true then (if a4 = 360 then (I1check.j0 k a2 a3 (decide (a5 < 1)) a0_0 a0_1 a0_2) else (if a4 = 365 then (I1check.j0 k a2 a3 (decide (a5 < 1)) a0_0 a0_1 a0_2) else (I1check.j0 k a2 a3 true a0_0 a0_1 a0_2))) else (I1check.j0 k a2 a3 true a0_0 a0_1 a0_2))) = some r := by rw [if_pos rfl] at H; exact H
    clear H
    have H := H1
    clear H1
    replace H := Option.bind_eq_some_iff.mp H
    obtain ⟨t786, A140, H⟩ := H
    (try dsimp only at H)
    have A14 := Aside0.mk A140
    clear A140
    by_cases c15 : t786 = true
    ·subst c15
     have H1 : (if a4 = 360 then (I1check.j0 k a2 a3 (decide (a5 < 1)) a0_0 a0_1 a0_2) else (if a4 = 365 then (I1check.j0 k a2 a3 (decide (a5 < 1)) a0_0 a0_1 a0_2) else (I1check.j0 k a2 a3 true a0_0 a0_1 a0_2))) = some r := by rw [if_pos rfl] at H; exact H
     clear H
     have H := H1
     clear H1
     by_cases c16 : a4 = 360
     ·rw [if_pos c16] at H
      have c16b0 := beq_iff_eq.mpr c16
      have c16b1 : (a4 != 360) = false := bne_eq_false_iff_eq.mpr c16
      clear c16
      (first | rw [c16b0] | (simp only [i64_w, i32_w]; rw [c16b0]) | rw [c16b1] | skip)
      have H' := Aside0.mk H
      clear H
      go_wp2_with (first | (refine goesLA 22 Tryd.func29 #[.int .i64 a2] ?_; (with_reducible refine (I1isDay.calls a2 true _ A12.out).mono ?_); rintro e w' ⟨rfl, ⟨nd, rfl⟩⟩; refine ⟨_, rfl, ?_⟩) | (go_at_call 29; (with_reducible refine (I1isDay.calls a3 true _ A14.out).mono ?_); rintro e w' ⟨rfl, ⟨nd, rfl⟩⟩))
      go_meet
      case rel => exact ⟨_, (decide (a5 < 1)), zq1, H', ⟨by first | omega | exact Nat.le_refl _⟩, ⟨bC BK783⟩, ⟨zH⟩⟩
     ·rw [if_neg c16] at H
      have c16b0 := beq_eq_false_iff_ne.mpr c16
      have c16b1 := bne_iff_ne.mpr c16
      (first | rw [c16b0] | (simp only [i64_w, i32_w]; rw [c16b0]) | rw [c16b1] | skip)
      by_cases c17 : a4 = 365
      ·rw [if_pos c17] at H
       have c17b0 := beq_iff_eq.mpr c17
       have c17b1 : (a4 != 365) = false := bne_eq_false_iff_eq.mpr c17
       clear c17
       have H' := Aside0.mk H
       clear H
       go_wp2_with (first | (refine goesLA 22 Tryd.func29 #[.int .i64 a2] ?_; (with_reducible refine (I1isDay.calls a2 true _ A12.out).mono ?_); rintro e w' ⟨rfl, ⟨nd, rfl⟩⟩; refine ⟨_, rfl, ?_⟩) | (go_at_call 29; (with_reducible refine (I1isDay.calls a3 true _ A14.out).mono ?_); rintro e w' ⟨rfl, ⟨nd, rfl⟩⟩))
       go_meet
       case rel => exact ⟨_, (decide (a5 < 1)), zq1, H', ⟨by first | omega | exact Nat.le_refl _⟩, ⟨bC BK783⟩, ⟨zH⟩⟩
      ·rw [if_neg c17] at H
       have c17b0 := beq_eq_false_iff_ne.mpr c17
       have c17b1 := bne_iff_ne.mpr c17
       have H' := Aside0.mk H
       clear H
       go_wp2_with (first | (refine goesLA 22 Tryd.func29 #[.int .i64 a2] ?_; (with_reducible refine (I1isDay.calls a2 true _ A12.out).mono ?_); rintro e w' ⟨rfl, ⟨nd, rfl⟩⟩; refine ⟨_, rfl, ?_⟩) | (go_at_call 29; (with_reducible refine (I1isDay.calls a3 true _ A14.out).mono ?_); rintro e w' ⟨rfl, ⟨nd, rfl⟩⟩))
       go_meet
       case rel => exact ⟨_, (true), zq1, H', ⟨by first | omega | exact Nat.le_refl _⟩, ⟨bC BK783⟩, ⟨zH⟩⟩
    ·replace c15 := Bool.eq_false_iff.mpr c15
     subst c15
     have H1 : (I1check.j0 k a2 a3 true a0_0 a0_1 a0_2) = some r := by rw [if_neg (show ¬ (false = true) by decide)] at H; exact H
     clear H
     have H := H1
     clear H1
     have H' := Aside0.mk H
     clear H
     go_wp2_with (first | (refine goesLA 22 Tryd.func29 #[.int .i64 a2] ?_; (with_reducible refine (I1isDay.calls a2 true _ A12.out).mono ?_); rintro e w' ⟨rfl, ⟨nd, rfl⟩⟩; refine ⟨_, rfl, ?_⟩) | (go_at_call 29; (with_reducible refine (I1isDay.calls a3 false _ A14.out).mono ?_); rintro e w' ⟨rfl, ⟨nd, rfl⟩⟩))
     go_meet
     case rel => exact ⟨_, (true), zq1, H', ⟨by first | omega | exact Nat.le_refl _⟩, ⟨bC BK783⟩, ⟨zH⟩⟩
   ·replace c13 := Bool.eq_false_iff.mpr c13
    subst c13
    have H1 : (I1check.j0 k a2 a3 true a0_0 a0_1 a0_2) = some r := by rw [if_neg (show ¬ (false = true) by decide)] at H; exact H
    clear H
    have H := H1
    clear H1
    have H' := Aside0.mk H
    clear H
    go_wp2_with (first | (refine goesLA 22 Tryd.func29 #[.int .i64 a2] ?_; (with_reducible refine (I1isDay.calls a2 false _ A12.out).mono ?_); rintro e w' ⟨rfl, ⟨nd, rfl⟩⟩; refine ⟨_, rfl, ?_⟩))
    go_meet
    case rel => exact ⟨_, (true), zq1, H', ⟨by first | omega | exact Nat.le_refl _⟩, ⟨bC BK783⟩, ⟨zH⟩⟩
  case rest =>
   clear HC9
   (try clear c1); (try clear c2); (try clear p2); (try clear c3); (try clear c8); (try clear c8b0); (try clear c8b1); (try clear c12); (try clear c13); (try clear c15); (try clear c16); (try clear c16b0); (try clear c16b1); (try clear c17); (try clear c17b0); (try clear c17b1)
   obtain ⟨kq, x20_8, rfl, HA, HJ8, BK783, HB⟩ := hcut
   cases kq with
   | zero => exact absurd HA.out (by simp [I1check.j0])
   | succ kj8 =>
    have H := HA.out
    clear HA
    simp only [I1check.j0] at H
    by_cases c18 : x20_8 = true
    ·subst c18
     have H1 : (some 1) = some r := by rw [if_pos rfl] at H; exact H
     clear H
     have H := H1
     clear H1
     obtain rfl := Option.some.inj H
     go_wp2
     go_ret
     exact ⟨zE, zH⟩
    ·replace c18 := Bool.eq_false_iff.mpr c18
     subst c18
     have H1 : (if a3 < a2 then (some 15) else ((Q1Sign.f kj8 a0_0 a0_1 a0_2).bind fun t787 => (if t787 < 0 then (some 7) else (some 0)))) = some r := by rw [if_neg (show ¬ (false = true) by decide)] at H; exact H
     clear H
     have H := H1
     clear H1
     by_cases c19 : a3 < a2
     ·rw [if_pos c19] at H
      have c19b0 := decide_eq_true c19
      clear c19
      obtain rfl := Option.some.inj H
      go_wp2
      go_ret
      exact ⟨zE, zH⟩
     ·rw [if_neg c19] at H
      have c19b0 := decide_eq_false c19
      clear c19
      replace H := Option.bind_eq_some_iff.mp H
      obtain ⟨t787, A200, H⟩ := H
      (try dsimp only at H)
      have A20 := Aside0.mk A200
      clear A200
      by_cases c21 : t787 < 0
      ·rw [if_pos c21] at H
       have c21b0 := decide_eq_true c21
       clear c21
       obtain rfl := Option.some.inj H
       have hcz22_0 := cB BK783 0 (.bool a0_0)
       have hcz22_1 := cB BK783 1 (.string a0_1)
       have hcz22_2 := cB BK783 2 (.string a0_2)
       have hfz22_0 := blk_frozen BK783.out 0
       have hfz22_1 := blk_frozen BK783.out 1
       have hfz22_2 := blk_frozen BK783.out 2
       go_wp2_with (first | (refine goesLA 47 Tryd.func30 #[.agg #[.bool a0_0, .string a0_1, .string a0_2]] ?_; (with_reducible refine (Q1Sign.calls kj8 a0_0 a0_1 a0_2 t787 _ A20.out).mono ?_); rintro e w23 ⟨rfl, hb⟩; refine ⟨_, rfl, ?_⟩; have n0_ := bB BK783 hb; have n1_ := sB hb; revert n0_ n1_; clear BK783 HB; intro BK783 HB; (try clear hb); (try clear hb2); (try clear hk); (try clear hi)))
       go_ret
       exact ⟨zE, zH⟩
      ·rw [if_neg c21] at H
       have c21b0 := decide_eq_false c21
       clear c21
       obtain rfl := Option.some.inj H
       have hcz24_0 := cB BK783 0 (.bool a0_0)
       have hcz24_1 := cB BK783 1 (.string a0_1)
       have hcz24_2 := cB BK783 2 (.string a0_2)
       have hfz24_0 := blk_frozen BK783.out 0
       have hfz24_1 := blk_frozen BK783.out 1
       have hfz24_2 := blk_frozen BK783.out 2
       go_wp2_with (first | (refine goesLA 47 Tryd.func30 #[.agg #[.bool a0_0, .string a0_1, .string a0_2]] ?_; (with_reducible refine (Q1Sign.calls kj8 a0_0 a0_1 a0_2 t787 _ A20.out).mono ?_); rintro e w25 ⟨rfl, hb⟩; refine ⟨_, rfl, ?_⟩; have n0_ := bB BK783 hb; have n1_ := sB hb; revert n0_ n1_; clear BK783 HB; intro BK783 HB; (try clear hb); (try clear hb2); (try clear hk); (try clear hi)))
       go_ret
       exact ⟨zE, zH⟩
 ·rw [if_neg c8] at H
  have c8b0 := beq_eq_false_iff_ne.mpr c8
  have c8b1 := bne_iff_ne.mpr c8
  obtain rfl := Option.some.inj H
  go_enter Tryd.func33, Tryd.ntmps33
  go_wp2_with (first | (refine box_evA 6 #[.bool a0_0, .string a0_1, .string a0_2] 29 ?_; intro gb783 hg w26 hbox hb; have n0_ := sB hb; have n1_ := Aside0.mk (hbox); have n2_ := wE w hg; have n3_ := wE w hg; revert n0_ n1_ n2_ n3_; clear HB; intro HB BK783 GW783 GE783; clear hb hbox hg) | (refine goesLA 15 Tryd.func12 #[.slice A1 l1.length c1] ?_; (with_reducible refine (I1Check.calls k _ _ l1 t784 _ ?side1 ?side2 A7.out).mono ?_); (case side1 => repeat (first | exact (Kd.C_below HR1.out HB.out) | (with_reducible refine Kd.C_alloc ?_ _) | (with_reducible refine Kd.C_drewN ?_ _) | (with_reducible refine Kd.C_drew ?_))); (case side2 => exact HC1.out); rintro e w27 ⟨rfl, hb⟩; refine ⟨_, rfl, ?_⟩; have n0_ := bB BK783 hb; have n1_ := sB hb; revert n0_ n1_; clear BK783 HB; intro BK783 HB; (try clear hb); (try clear hb2); (try clear hk); (try clear hi)))
  go_ret
  exact ⟨zE, zH⟩
end Go.Proofs.YtggfilmdfpmbmaaDoor.QN
end
section
namespace Go.Proofs.YtggfilmdfpmbmaaDoor.QN
open Go.RowKit Go.Proofs.YtggfilmdfpmbmaaDoorW.PrintWords Go.Proofs.YtggfilmdfpmbmaaDoorW.PrintLast Go.Proofs.YtggfilmdfpmbmaaDoorW.PrintMore
attribute [local go_sem] max2_int min2_int max_two min_two max_three min_three max_four min_four   -- for this text's walks alone
set_option linter.unusedVariables false
set_option linter.unusedSimpArgs false
attribute [local go_sem high] eqA29
mutual
def I1simple.l0 : Nat → List (S54) → Int → Int → Int → List (S54) → Int → Int → Bool → ByteArray → ByteArray → Option (Bool × ByteArray × ByteArray)
 | 0, _, _, _, _, _, _, _, _, _, _ => none
 | k + 1, x0, x1, x2, x3, x17, x18, x19, x790000, x790001, x790002 => if x19 < x18 then (if 0 ≤ x19 then (if x19 < (x17.length : Int) then (if (wrap64 (x19 + 1)) < (x0.length : Int) then (if 0 ≤ (wrap64 (x19 + 1)) then (I1simple.j1 k x0 x1 x2 x3 (mx x1 ((rd_T54 x17 x19).f0)) (mn x2 ((rd_T54 x0 (wrap64 (x19 + 1))).f0)) x17 x18 x19 x790000 x790001 x790002 ((rd_T54 x17 x19).f0) ((rd_T54 x17 x19).f1.f0) ((rd_T54 x17 x19).f1.f1) ((rd_T54 x17 x19).f1.f2)) else (none)) else (I1simple.j1 k x0 x1 x2 x3 (mx x1 ((rd_T54 x17 x19).f0)) x2 x17 x18 x19 x790000 x790001 x790002 ((rd_T54 x17 x19).f0) ((rd_T54 x17 x19).f1.f0) ((rd_T54 x17 x19).f1.f1) ((rd_T54 x17 x19).f1.f2))) else (none)) else (none)) else ((Q1Int.f k x3).bind fun bt790 => ((Q1Divide.f k x790000 x790001 x790002 bt790.1 bt790.2.1 bt790.2.2).bind fun bt793 => (some (bt793.1, bt793.2.1, bt793.2.2.1))))
def I1simple.j1 : Nat → List (S54) → Int → Int → Int → Int → Int → List (S54) → Int → Int → Bool → ByteArray → ByteArray → Int → Bool → ByteArray → ByteArray → Option (Bool × ByteArray × ByteArray)
 | 0, _, _, _, _, _, _, _, _, _, _, _, _, _, _, _, _ => none
 | k + 1, x0, x1, x2, x3, x12, x13, x17, x18, x19, x790000, x790001, x790002, x800000, x800001, x800002, x800003 => if x13 > x12 then ((Q1Int.f k (wrap64 (x13 - x12))).bind fun bt801 => ((Q1Multiply.f k x800001 x800002 x800003 bt801.1 bt801.2.1 bt801.2.2).bind fun bt804 => ((Q1Add.f k x790000 x790001 x790002 bt804.1 bt804.2.1 bt804.2.2).bind fun bt807 => (I1simple.l0 k x0 x1 x2 x3 x17 x18 (wrap64 (x19 + 1)) bt807.1 bt807.2.1 bt807.2.2)))) else (I1simple.l0 k x0 x1 x2 x3 x17 x18 (wrap64 (x19 + 1)) x790000 x790001 x790002)
end
def I1simple.f (k : Nat) (l0 : List (S54)) (a1 : Int) (a2 : Int) (a3 : Int) : Option (Bool × ByteArray × ByteArray) := I1simple.l0 k l0 a1 a2 a3 l0 (l0.length : Int) 0 false (⟨#[]⟩ : ByteArray) (⟨#[]⟩ : ByteArray)
def I1simple.T9 : Bool × List (List Nat × List Nat) := (true, [([], []), ([], []), ([1], [1]), ([], []), ([], []), ([3, 4], [3, 4]), ([5], [5]), ([2, 6, 6], [2, 6]), ([0, 7, 7], [0, 7]), ([8, 8, 0, 1, 2, 3, 4, 5, 6, 7, 8], [8])])
def I1simple.B9 : List Nat := [0, 0, 2, 0, 0, 24, 56, 126, 255, 511]
theorem I1simple.tab9 : rtab .any (opsOf Tryd.f34 9) = I1simple.T9 := by kernel_rfl
theorem I1simple.bits9 : waitsOk I1simple.T9.2 I1simple.B9 = true := by kernel_rfl
def I1simple.T11 : Bool × List (List Nat × List Nat) := (true, [([], []), ([], []), ([1], [1]), ([0, 2, 2], [0, 2]), ([3], [3]), ([4], [4]), ([4], [4]), ([], []), ([7, 5, 3, 0, 1, 2, 3, 4, 5, 7], [5, 7]), ([6, 8, 0, 1, 2, 3, 4, 5, 6, 7, 8], [6])])
def I1simple.B11 : List Nat := [0, 0, 2, 7, 15, 31, 31, 0, 191, 511]
theorem I1simple.tab11 : rtab .any (opsOf Tryd.f34 11) = I1simple.T11 := by kernel_rfl
theorem I1simple.bits11 : waitsOk I1simple.T11.2 I1simple.B11 = true := by kernel_rfl
set_option maxHeartbeats 8000000 in
set_option maxRecDepth 100000 in
theorem I1simple.calls (k : Nat) (A0 : Option Addr) (c0 : Nat) (l0 : List (S54)) (a1 : Int) (a2 : Int) (a3 : Int) (r1 : Bool) (r2 : ByteArray) (r3 : ByteArray) (w : World) (hr0 : Kd.C k54 w A0 l0.length l0) (hc0 : l0.length ≤ c0) (h : I1simple.f k l0 a1 a2 a3 = some (r1, r2, r3)) :
 Calls Tryd.prog 34 #[.slice A0 l0.length c0, .int .i64 a1, .int .i64 a2, .int .i64 a3] w fun e w' => e = .returned (.agg #[.bool r1, .string r2, .string r3]) ∧ Below w.heap.size w w' := by
 have hu29 := Tryd.underlying29
 have hu54 := Tryd.underlying54
 have HR0 := Aside0.mk hr0
 have HC0 := Aside0.mk hc0
 clear hr0 hc0
 have HB := Aside0.mk (Below.refl w.heap.size w)
 have H : (I1simple.l0 k l0 a1 a2 a3 l0 (l0.length : Int) 0 false (⟨#[]⟩ : ByteArray) (⟨#[]⟩ : ByteArray)) = some (r1, r2, r3) := h
 clear h
 have H' := Aside0.mk H
 clear H
 go_enter Tryd.func34, Tryd.ntmps34
 go_wp2_with (first | (refine box_evA 8 #[.bool false, .string (⟨#[]⟩ : ByteArray), .string (⟨#[]⟩ : ByteArray)] 29 ?_; intro gb788 hg w5 hbox hb; have n0_ := sB hb; have n1_ := Aside0.mk (hbox); have n2_ := wE w hg; have n3_ := wE w hg; revert n0_ n1_ n2_ n3_; clear HB; intro HB BK788 GW788 GE788; clear hb hbox hg) | (refine box_evA 9 #[.bool false, .string (⟨#[]⟩ : ByteArray), .string (⟨#[]⟩ : ByteArray)] 29 ?_; intro gb789 hg w6 hbox hb; have n0_ := bB BK788 hb; have n1_ := sB hb; have n2_ := Aside0.mk (hbox); have n3_ := wE w hg; have n4_ := wE w hg; have n5_ := Aside0.mk (nL BK788 hg); have n6_ := Aside0.mk (nG BK788 hg); revert n0_ n1_ n2_ n3_ n4_ n5_ n6_; clear BK788 HB; intro BK788 HB BK789 GW789 GE789 NB788_789 NB789_788; clear hb hbox hg; have hnb7 := NB789_788.out; have hnc7 := NB788_789.out; have hcz8_0 := cB BK789 0 (.bool false); have hcz8_1 := cB BK789 1 (.string (⟨#[]⟩ : ByteArray)); have hcz8_2 := cB BK789 2 (.string (⟨#[]⟩ : ByteArray)); have hfz8_0 := blk_frozen BK789.out 0; have hfz8_1 := blk_frozen BK789.out 1; have hfz8_2 := blk_frozen BK789.out 2))
 go_loopg [19] k (fun kq v19 w' => ∃ (x19_1 : Int) (x790000_1 : Bool) (x790001_1 : ByteArray) (x790002_1 : ByteArray), v19 = .int .i64 x19_1 ∧ Aside0 (I1simple.l0 kq l0 a1 a2 a3 l0 (l0.length : Int) x19_1 x790000_1 x790001_1 x790002_1 = some (r1, r2, r3)) ∧ Aside0 (kq ≤ k) ∧ Aside0 (w'.heap[gb788]? = some (.cells #[.bool false, .string (⟨#[]⟩ : ByteArray), .string (⟨#[]⟩ : ByteArray)] 29 (0, 0))) ∧ Aside0 (w'.heap[gb789]? = some (.cells #[.bool x790000_1, .string x790001_1, .string x790002_1] 29 (0, 0))) ∧ Aside0 (Below w.heap.size w w'))
 case atStart => exact ⟨(0), (false), ((⟨#[]⟩ : ByteArray)), ((⟨#[]⟩ : ByteArray)), zq1, H', ⟨Nat.le_refl _⟩, ⟨bC BK788⟩, ⟨bC BK789⟩, ⟨zH⟩⟩
 case round =>
  clear H'
  (try clear p2); (try clear c3); (try clear c7); (try clear hcz8_0); (try clear hcz8_1); (try clear hcz8_2); (try clear hfz8_0); (try clear hfz8_1); (try clear hfz8_2)
  obtain ⟨x19_1, x790000_1, x790001_1, x790002_1, rfl, HA, HK1, BK788, BK789, HB⟩ := hrel
  cases gk with
  | zero => exact absurd HA.out (by simp [I1simple.l0])
  | succ k1 =>
   have H := HA.out
   clear HA
   simp only [I1simple.l0] at H
   by_cases c9 : x19_1 < (l0.length : Int)
   ·rw [if_pos c9] at H
    have c9b0 := decide_eq_true c9
    clear c9
    replace H := of_ite H
    obtain ⟨c10, H⟩ := H
    have c10b0 := decide_eq_true c10
    clear c10
    replace H := of_ite H
    obtain ⟨c11, H⟩ := H
    have c11b0 := decide_eq_true c11
    clear c11
    obtain ⟨ji12, hji12⟩ : ∃ j_ : Int, (mx a1 ((rd_T54 l0 x19_1).f0)) = j_ := ⟨_, rfl⟩
    first | rw [hji12] at H | simp only [hji12] at H
    have hji12_ : (if a1 < ((rd_T54 l0 x19_1).f0) then ((rd_T54 l0 x19_1).f0) else a1) = ji12 := hji12
    have HC13 := Aside0.mk H
    clear H
    have p798 : 0 ≤ (x19_1 : Int) := of_decide_eq_true zq0
    have q798 : x19_1 < (l0.length : Int) := of_decide_eq_true zq0
    obtain ⟨ad798, e798, hx798_0, hx798_1, hx798_2, hx798_3⟩ := at_T54 HR0.out x19_1 p798 q798
    cases e798
    (try replace hx798_0 := (HB.out.cell (World.block_lt_of_cell? w _ hx798_0)).trans hx798_0)
    (try replace hx798_1 := (HB.out.cell (World.block_lt_of_cell? w _ hx798_1)).trans hx798_1)
    (try replace hx798_2 := (HB.out.cell (World.block_lt_of_cell? w _ hx798_2)).trans hx798_2)
    (try replace hx798_3 := (HB.out.cell (World.block_lt_of_cell? w _ hx798_3)).trans hx798_3)
    replace p798 := eq_true p798
    replace q798 := eq_true q798
    go_upto_if 33 with (first | (refine box_evA 11 #[.int .i64 0, .bool false, .string (⟨#[]⟩ : ByteArray), .string (⟨#[]⟩ : ByteArray)] 54 ?_; intro gb799 hg w14 hbox hb; have n0_ := bB BK788 hb; have n1_ := bB BK789 hb; have n2_ := sB hb; have n3_ := Aside0.mk (hbox); have n4_ := wE w hg; have n5_ := wE w hg; have n6_ := Aside0.mk (nL BK788 hg); have n7_ := Aside0.mk (nG BK788 hg); have n8_ := Aside0.mk (nL BK789 hg); have n9_ := Aside0.mk (nG BK789 hg); revert n0_ n1_ n2_ n3_ n4_ n5_ n6_ n7_ n8_ n9_; clear BK788 BK789 HB; intro BK788 BK789 HB BK799 GW799 GE799 NB788_799 NB799_788 NB789_799 NB799_789; clear hb hbox hg; have hnb15 := NB799_788.out; have hnc15 := NB788_799.out; have hnb16 := NB799_789.out; have hnc16 := NB789_799.out; have hcz17_0 := cB BK799 0 (.int .i64 0); have hcz17_1 := cB BK799 1 (.bool false); have hcz17_2 := cB BK799 2 (.string (⟨#[]⟩ : ByteArray)); have hcz17_3 := cB BK799 3 (.string (⟨#[]⟩ : ByteArray)); have hfz17_0 := blk_frozen BK799.out 0; have hfz17_1 := blk_frozen BK799.out 1; have hfz17_2 := blk_frozen BK799.out 2; have hfz17_3 := blk_frozen BK799.out 3))
    (try simp only [Act.put, List.setIfInBounds_toArray, List.set_cons_zero, List.set_cons_succ])
    go_cut [13] (fun v13 wc => ∃ (kq : Nat) (x13_12 : Int), v13 = .int .i64 x13_12 ∧ Aside0 (I1simple.j1 kq l0 a1 a2 a3 ji12 x13_12 l0 (l0.length : Int) x19_1 x790000_1 x790001_1 x790002_1 ((rd_T54 l0 x19_1).f0) ((rd_T54 l0 x19_1).f1.f0) ((rd_T54 l0 x19_1).f1.f1) ((rd_T54 l0 x19_1).f1.f2) = some (r1, r2, r3)) ∧ Aside0 (kq ≤ k1) ∧ Aside0 (wc.heap[gb788]? = some (.cells #[.bool false, .string (⟨#[]⟩ : ByteArray), .string (⟨#[]⟩ : ByteArray)] 29 (0, 0))) ∧ Aside0 (wc.heap[gb789]? = some (.cells #[.bool x790000_1, .string x790001_1, .string x790002_1] 29 (0, 0))) ∧ Aside0 (wc.heap[gb799]? = some (.cells #[.int .i64 ((rd_T54 l0 x19_1).f0), .bool ((rd_T54 l0 x19_1).f1.f0), .string ((rd_T54 l0 x19_1).f1.f1), .string ((rd_T54 l0 x19_1).f1.f2)] 54 (0, 0))) ∧ Aside0 (Below w.heap.size w wc))
    case first =>
     have H := HC13.out
     clear HC13
     by_cases c18 : (wrap64 (x19_1 + 1)) < (l0.length : Int)
     ·rw [if_pos c18] at H
      have c18b0 := decide_eq_true c18
      clear c18
      (first | rw [c18b0] | (simp only [i64_w, i32_w]; rw [c18b0]) | rw [c18b1] | skip)
      obtain ⟨ji19, hji19⟩ : ∃ j_ : Int, (wrap64 (x19_1 + 1)) = j_ := ⟨_, rfl⟩
      first | rw [hji19] at H | simp only [hji19] at H
      (try rw [hji19] at c18b0)
      have hji19w : (IntKind.i64.wrap (x19_1 + 1)) = ji19 := (i64_w _).trans hji19
      replace H := of_ite H
      obtain ⟨c20, H⟩ := H
      have c20b0 := decide_eq_true c20
      clear c20
      obtain ⟨ji21, hji21⟩ : ∃ j_ : Int, (mn a2 ((rd_T54 l0 (ji19)).f0)) = j_ := ⟨_, rfl⟩
      first | rw [hji21] at H | simp only [hji21] at H
      have hji21_ : (if ((rd_T54 l0 (ji19)).f0) < a2 then ((rd_T54 l0 (ji19)).f0) else a2) = ji21 := hji21
      have H' := Aside0.mk H
      clear H
      have p800 : 0 ≤ ((ji19) : Int) := of_decide_eq_true zq0
      have q800 : (ji19) < (l0.length : Int) := of_decide_eq_true zq0
      obtain ⟨ad800, e800, hx800_0, hx800_1, hx800_2, hx800_3⟩ := at_T54 HR0.out (ji19) p800 q800
      obtain rfl : ad798 = ad800 := (by injection e800)
      have hn800_0 : ad798.block ≠ gb799 := Nat.ne_of_lt (Nat.lt_of_lt_of_le (by have := World.block_lt_of_cell? _ _ hx800_0; first | rwa [add_block] at this | exact this) GW799.out)
      have hn800_1 : ad798.block ≠ gb799 := Nat.ne_of_lt (Nat.lt_of_lt_of_le (by have := World.block_lt_of_cell? _ _ hx800_0; first | rwa [add_block] at this | exact this) GW799.out)
      have hn800_2 : ad798.block ≠ gb799 := Nat.ne_of_lt (Nat.lt_of_lt_of_le (by have := World.block_lt_of_cell? _ _ hx800_0; first | rwa [add_block] at this | exact this) GW799.out)
      have hn800_3 : ad798.block ≠ gb799 := Nat.ne_of_lt (Nat.lt_of_lt_of_le (by have := World.block_lt_of_cell? _ _ hx800_0; first | rwa [add_block] at this | exact this) GW799.out)
      (try replace hx800_0 := (HB.out.cell (World.block_lt_of_cell? w _ hx800_0)).trans hx800_0)
      (try replace hx800_1 := (HB.out.cell (World.block_lt_of_cell? w _ hx800_1)).trans hx800_1)
      (try replace hx800_2 := (HB.out.cell (World.block_lt_of_cell? w _ hx800_2)).trans hx800_2)
      (try replace hx800_3 := (HB.out.cell (World.block_lt_of_cell? w _ hx800_3)).trans hx800_3)
      replace hx800_0 := (cell_far (p := ⟨gb799, 0, none⟩) zq35 (.int .i64 ((rd_T54 l0 x19_1).f0))).trans hx800_0
      replace hx800_1 := (cell_far (p := ⟨gb799, 0, none⟩) zq35 (.int .i64 ((rd_T54 l0 x19_1).f0))).trans hx800_1
      replace hx800_2 := (cell_far (p := ⟨gb799, 0, none⟩) zq35 (.int .i64 ((rd_T54 l0 x19_1).f0))).trans hx800_2
      replace hx800_3 := (cell_far (p := ⟨gb799, 0, none⟩) zq35 (.int .i64 ((rd_T54 l0 x19_1).f0))).trans hx800_3
      replace hx800_0 := (cell_far (p := ⟨gb799, 1, none⟩) zq36 (.bool ((rd_T54 l0 x19_1).f1.f0))).trans hx800_0
      replace hx800_1 := (cell_far (p := ⟨gb799, 1, none⟩) zq36 (.bool ((rd_T54 l0 x19_1).f1.f0))).trans hx800_1
      replace hx800_2 := (cell_far (p := ⟨gb799, 1, none⟩) zq36 (.bool ((rd_T54 l0 x19_1).f1.f0))).trans hx800_2
      replace hx800_3 := (cell_far (p := ⟨gb799, 1, none⟩) zq36 (.bool ((rd_T54 l0 x19_1).f1.f0))).trans hx800_3
      replace hx800_0 := (cell_far (p := ⟨gb799, 2, none⟩) zq37 (.string ((rd_T54 l0 x19_1).f1.f1))).trans hx800_0
      replace hx800_1 := (cell_far (p := ⟨gb799, 2, none⟩) zq37 (.string ((rd_T54 l0 x19_1).f1.f1))).trans hx800_1
      replace hx800_2 := (cell_far (p := ⟨gb799, 2, none⟩) zq37 (.string ((rd_T54 l0 x19_1).f1.f1))).trans hx800_2
      replace hx800_3 := (cell_far (p := ⟨gb799, 2, none⟩) zq37 (.string ((rd_T54 l0 x19_1).f1.f1))).trans hx800_3
      replace hx800_0 := (cell_far (p := ⟨gb799, 3, none⟩) zq38 (.string ((rd_T54 l0 x19_1).f1.f2))).trans hx800_0
      replace hx800_1 := (cell_far (p := ⟨gb799, 3, none⟩) zq38 (.string ((rd_T54 l0 x19_1).f1.f2))).trans hx800_1
      replace hx800_2 := (cell_far (p := ⟨gb799, 3, none⟩) zq38 (.string ((rd_T54 l0 x19_1).f1.f2))).trans hx800_2
      replace hx800_3 := (cell_far (p := ⟨gb799, 3, none⟩) zq38 (.string ((rd_T54 l0 x19_1).f1.f2))).trans hx800_3
      clear hn800_0 hn800_1 hn800_2 hn800_3
      replace p800 := eq_true p800
      replace q800 := eq_true q800
      go_wp2
      go_meet
      case rel => exact ⟨_, (ji21), (by first | rfl | (simp; done) | (simp only [← hji21] <;> (first | rfl | simp)) | (simp [*]; done)), H', ⟨by have := HK1.out; first | omega | exact Nat.le_refl _⟩, ⟨bC BK788⟩, ⟨bC BK789⟩, ⟨bC BK799⟩, ⟨zH⟩⟩
     ·rw [if_neg c18] at H
      have c18b0 := decide_eq_false c18
      clear c18
      (first | rw [c18b0] | (simp only [i64_w, i32_w]; rw [c18b0]) | rw [c18b1] | skip)
      have H' := Aside0.mk H
      clear H
      go_wp2
      go_meet
      case rel => exact ⟨_, (a2), zq1, H', ⟨by have := HK1.out; first | omega | exact Nat.le_refl _⟩, ⟨bC BK788⟩, ⟨bC BK789⟩, ⟨bC BK799⟩, ⟨zH⟩⟩
    case rest =>
     clear HC13
     (try clear c1); (try clear c2); (try clear p2); (try clear c3); (try clear p6); (try clear c7); (try clear p7); (try clear q7); (try clear hx7); (try clear p8); (try clear q8); (try clear hx8); (try clear c9); (try clear c9b0); (try clear c10); (try clear c10b0); (try clear c11); (try clear c11b0); (try clear c15); (try clear c16); (try clear c18); (try clear c18b0); (try clear c18b1); (try clear c20); (try clear c20b0); (try clear hcz17_0); (try clear hcz17_1); (try clear hcz17_2); (try clear hcz17_3); (try clear hcz8_0); (try clear hcz8_1); (try clear hcz8_2); (try clear hfz17_0); (try clear hfz17_1); (try clear hfz17_2); (try clear hfz17_3); (try clear hfz8_0); (try clear hfz8_1); (try clear hfz8_2); (try clear hx798_0); (try clear hx798_1); (try clear hx798_2); (try clear hx798_3); (try clear hx800_0); (try clear hx800_1); (try clear hx800_2); (try clear hx800_3); (try clear p2); (try clear p798); (try clear p800); (try clear q798); (try clear q800)
     obtain ⟨kq, x13_12, rfl, HA, HJ12, BK788, BK789, BK799, HB⟩ := hcut
     cases kq with
     | zero => exact absurd HA.out (by simp [I1simple.j1])
     | succ kj12 =>
      have H := HA.out
      clear HA
      simp only [I1simple.j1] at H
      by_cases c22 : x13_12 > ji12
      ·rw [if_pos c22] at H
       have c22b0 := decide_eq_true c22
       clear c22
       replace H := Option.bind_eq_some_iff.mp H
       obtain ⟨⟨t801, t802, t803⟩, A230, H⟩ := H
       (try dsimp only at H)
       have A23 := Aside0.mk A230
       clear A230
       replace H := Option.bind_eq_some_iff.mp H
       obtain ⟨⟨t804, t805, t806⟩, A240, H⟩ := H
       (try dsimp only at H)
       have A24 := Aside0.mk A240
       clear A240
       replace H := Option.bind_eq_some_iff.mp H
       obtain ⟨⟨t807, t808, t809⟩, A250, H⟩ := H
       (try dsimp only at H)
       have A25 := Aside0.mk A250
       clear A250
       have H' := Aside0.mk H
       clear H
       try go_wp2
       have n0_ := Aside0.mk (blk_drew BK788.out)
       have n1_ := Aside0.mk (blk_drew BK789.out)
       have n2_ := Aside0.mk (blk_drew BK799.out)
       have n3_ := Aside0.mk (below_drew1 HB.out)
       revert n0_ n1_ n2_ n3_
       clear BK788 BK789 BK799 HB
       intro BK788 BK789 BK799 HB
       refine start_ (n := 10) (S := fun w' => w'.cell? ⟨gb789, 0, none⟩ = some (.bool x790000_1) ∧ w'.cell? ⟨gb789, 1, none⟩ = some (.string x790001_1) ∧ w'.cell? ⟨gb789, 2, none⟩ = some (.string x790002_1) ∧ w'.cell? ⟨gb799, 0, none⟩ = some (.int .i64 ((rd_T54 l0 x19_1).f0)) ∧ w'.cell? ⟨gb799, 1, none⟩ = some (.bool ((rd_T54 l0 x19_1).f1.f0)) ∧ w'.cell? ⟨gb799, 2, none⟩ = some (.string ((rd_T54 l0 x19_1).f1.f1)) ∧ w'.cell? ⟨gb799, 3, none⟩ = some (.string ((rd_T54 l0 x19_1).f1.f2))) (ds := [9]) #[false, false, false, false, false, false, false, false, false, false] (by kernel_rfl) rfl rfl ⟨cA BK789 0, cA BK789 1, cA BK789 2, cA BK799 0, cA BK799 1, cA BK799 2, cA BK799 3⟩ (fun hHeld => ?_); refine with_tabW I1simple.tab9 I1simple.bits9 (fun HT_ HW_ => ?_)
       generalize wc.drew = w26 at BK788 BK789 BK799 HB hHeld ⊢
       refine pureA 1 46 (lB 10 2) rfl rfl ?_
       refine pureA 3 48 (lB 10 10) rfl rfl ?_
       refine pureA 4 49 (lB 10 26) rfl rfl ?_
       refine pureA 5 50 (lB 10 58) rfl rfl ?_
       refine takeA 0 45 (lB 10 59) rfl rfl hHeld ?_
       refine takeA 2 47 (lB 10 63) rfl rfl hHeld ?_
       refine one_ (i := 6) (N := some 51) (lB 10 127) rfl rfl (one_of HT_.out (by kernel_rfl)) (by decide) (fun K hK => ?_)
       refine goes_ Tryd.func24 (by kernel_rfl) rfl #[.int .i64 (wrap64 (x13_12 - ji12))] (by rfl) rfl rfl (by (try simp only [List.map_toArray, List.map_cons, List.map_nil]); first | done | (simp only [hji12]; rfl) | rfl | (simp only [List.length_drop, List.length_take]; rfl)) ?_
       with_reducible refine (Q1Int.calls kj12 (wrap64 (x13_12 - ji12)) t801 t802 t803 _ A23.out).mono ?_
       rintro e w27 ⟨rfl, hb⟩
       refine ⟨_, rfl, ?_⟩
       have n0_ := bB BK788 hb
       have n1_ := bB BK789 hb
       have n2_ := bB BK799 hb
       have n3_ := sB hb
       revert n0_ n1_ n2_ n3_
       clear BK788 BK789 BK799 HB
       intro BK788 BK789 BK799 HB
       (try clear hb); (try clear hb2); (try clear hk); (try clear hi)
       refine hK.out _ _ ⟨cA BK789 0, cA BK789 1, cA BK789 2, cA BK799 0, cA BK799 1, cA BK799 2, cA BK799 3⟩ (fun hHeld => ?_)
       clear hK K
       refine normA (N := 51) ?_
       refine one_ (i := 7) (N := some 52) (lB 10 255) rfl rfl (one_of HT_.out (by kernel_rfl)) (by decide) (fun K hK => ?_)
       refine goes_ Tryd.func19 (by kernel_rfl) rfl #[.agg #[.bool ((rd_T54 l0 x19_1).f1.f0), .string ((rd_T54 l0 x19_1).f1.f1), .string ((rd_T54 l0 x19_1).f1.f2)], .agg #[.bool t801, .string t802, .string t803]] (by rfl) rfl rfl zq2 ?_
       with_reducible refine (Q1Multiply.calls kj12 ((rd_T54 l0 x19_1).f1.f0) ((rd_T54 l0 x19_1).f1.f1) ((rd_T54 l0 x19_1).f1.f2) t801 t802 t803 t804 t805 t806 _ A24.out).mono ?_
       rintro e w28 ⟨rfl, hb⟩
       refine ⟨_, rfl, ?_⟩
       have n0_ := bB BK788 hb
       have n1_ := bB BK789 hb
       have n2_ := bB BK799 hb
       have n3_ := sB hb
       revert n0_ n1_ n2_ n3_
       clear BK788 BK789 BK799 HB
       intro BK788 BK789 BK799 HB
       (try clear hb); (try clear hb2); (try clear hk); (try clear hi)
       refine hK.out _ _ ⟨cA BK789 0, cA BK789 1, cA BK789 2, cA BK799 0, cA BK799 1, cA BK799 2, cA BK799 3⟩ (fun hHeld => ?_)
       clear hK K
       refine normA (N := 52) ?_
       refine one_ (i := 8) (N := some 53) (lB 10 511) rfl rfl (one_of HT_.out (by kernel_rfl)) (by decide) (fun K hK => ?_)
       refine goes_ Tryd.func20 (by kernel_rfl) rfl #[.agg #[.bool x790000_1, .string x790001_1, .string x790002_1], .agg #[.bool t804, .string t805, .string t806]] (by rfl) rfl rfl zq2 ?_
       with_reducible refine (Q1Add.calls kj12 x790000_1 x790001_1 x790002_1 t804 t805 t806 t807 t808 t809 _ A25.out).mono ?_
       rintro e w29 ⟨rfl, hb⟩
       refine ⟨_, rfl, ?_⟩
       have n0_ := bB BK788 hb
       have n1_ := bB BK789 hb
       have n2_ := bB BK799 hb
       have n3_ := sB hb
       revert n0_ n1_ n2_ n3_
       clear BK788 BK789 BK799 HB
       intro BK788 BK789 BK799 HB
       (try clear hb); (try clear hb2); (try clear hk); (try clear hi)
       refine hK.out _ _ ⟨cA BK789 0, cA BK789 1, cA BK789 2, cA BK799 0, cA BK799 1, cA BK799 2, cA BK799 3⟩ (fun hHeld => ?_)
       clear hK K
       refine normA (N := 53) ?_
       refine last_ (i := 9) (N := none) (lB 10 1023) rfl rfl (one_of HT_.out (by kernel_rfl)) (by decide) (fun K hK => ?_)
       have hs30 := cB BK789 0 (.bool x790000_1)
       have hfs30 := blk_frozen BK789.out 0
       have hns30_0 := NB788_789.out
       have hns30_2 := NB799_789.out
       have hms30_0 := NB789_788.out
       have hms30_2 := NB789_799.out
       have hs31 := cB BK789 1 (.string x790001_1)
       have hfs31 := blk_frozen BK789.out 1
       have hns31_0 := NB788_789.out
       have hns31_2 := NB799_789.out
       have hms31_0 := NB789_788.out
       have hms31_2 := NB789_799.out
       have hs32 := cB BK789 2 (.string x790002_1)
       have hfs32 := blk_frozen BK789.out 2
       have hns32_0 := NB788_789.out
       have hns32_2 := NB799_789.out
       have hms32_0 := NB789_788.out
       have hms32_2 := NB789_799.out
       refine skip_ (w1 := ?_) (by rfl) rfl ?_ ?_
       rotate_left
       ·go_simp
        rfl
       refine hK.out _ _ ?_
       clear hK K
       refine done_ (done_of HT_.out (by kernel_rfl)) ?_
       try go_wp2
       go_roundg kj12
       case measure => have := HK1.out; have := HJ12.out; omega
       case rel => exact ⟨(wrap64 (x19_1 + 1)), (t807), (t808), (t809), zq1, H', ⟨by have := HK1.out; have := HJ12.out; omega⟩, ⟨bC BK788⟩, ⟨bC BK789⟩, ⟨zH⟩⟩
      ·rw [if_neg c22] at H
       have c22b0 := decide_eq_false c22
       clear c22
       have H' := Aside0.mk H
       clear H
       go_wp2
       go_roundg kj12
       case measure => have := HK1.out; have := HJ12.out; omega
       case rel => exact ⟨(wrap64 (x19_1 + 1)), (x790000_1), (x790001_1), (x790002_1), zq1, H', ⟨by have := HK1.out; have := HJ12.out; omega⟩, ⟨bC BK788⟩, ⟨bC BK789⟩, ⟨zH⟩⟩
   ·rw [if_neg c9] at H
    have c9b0 := decide_eq_false c9
    clear c9
    replace H := Option.bind_eq_some_iff.mp H
    obtain ⟨⟨t790, t791, t792⟩, A330, H⟩ := H
    (try dsimp only at H)
    have A33 := Aside0.mk A330
    clear A330
    replace H := Option.bind_eq_some_iff.mp H
    obtain ⟨⟨t793, t794, t795, t796⟩, A340, H⟩ := H
    (try dsimp only at H)
    have A34 := Aside0.mk A340
    clear A340
    simp only [Option.some.injEq, Prod.mk.injEq] at H
    obtain ⟨rfl, rfl, rfl⟩ := H
    try go_wp2
    have n0_ := Aside0.mk (blk_drew BK788.out)
    have n1_ := Aside0.mk (blk_drew BK789.out)
    have n2_ := Aside0.mk (below_drew1 HB.out)
    revert n0_ n1_ n2_
    clear BK788 BK789 HB
    intro BK788 BK789 HB
    refine start_ (n := 10) (S := fun w' => w'.cell? ⟨gb789, 0, none⟩ = some (.bool x790000_1) ∧ w'.cell? ⟨gb789, 1, none⟩ = some (.string x790001_1) ∧ w'.cell? ⟨gb789, 2, none⟩ = some (.string x790002_1)) (ds := []) #[false, false, false, false, false, false, false, false, false, false] (by kernel_rfl) rfl rfl ⟨cA BK789 0, cA BK789 1, cA BK789 2⟩ (fun hHeld => ?_); refine with_tabW I1simple.tab11 I1simple.bits11 (fun HT_ HW_ => ?_)
    generalize wr.drew = w35 at BK788 BK789 HB hHeld ⊢
    refine pureA 1 57 (lB 10 2) rfl rfl ?_
    refine takeA 0 56 (lB 10 3) rfl rfl hHeld ?_
    refine join_ (σ := Nat) 2 #[true, true, true, true, true, true, true, true, false, false] (fun s_ => [(58, .agg #[.bool t790, .string t791, .string t792]), (59, .tuple #[.agg #[.bool t793, .string t794, .string t795], .bool t796]), (14, .pointer (some ⟨s_, 0, none⟩)), (55, .tuple #[.agg #[.bool t793, .string t794, .string t795], .bool t796]), (60, .agg #[.bool t793, .string t794, .string t795]), (61, .bool t796)]) (fun s_ w' => (w'.cell? ⟨gb789, 0, none⟩ = some (.bool x790000_1) ∧ w'.cell? ⟨gb789, 1, none⟩ = some (.string x790001_1) ∧ w'.cell? ⟨gb789, 2, none⟩ = some (.string x790002_1)) ∧ (w'.heap[gb788]? = some (.cells #[.bool false, .string (⟨#[]⟩ : ByteArray), .string (⟨#[]⟩ : ByteArray)] 29 (0, 0))) ∧ (w'.heap[gb789]? = some (.cells #[.bool x790000_1, .string x790001_1, .string x790002_1] 29 (0, 0))) ∧ (w'.heap[s_]? = some (.cells #[.bool false, .string (⟨#[]⟩ : ByteArray), .string (⟨#[]⟩ : ByteArray)] 29 (0, 0))) ∧ (w.heap.size ≤ s_) ∧ (w.heap.size ≤ s_) ∧ (gb788 ≠ s_) ∧ (s_ ≠ gb788) ∧ (gb789 ≠ s_) ∧ (s_ ≠ gb789) ∧ (Below w.heap.size w w')) ?_ ?_
    rotate_left
    ·intro hCont
     refine two_ (i := 2) (j := 7) (Ni := some 58) (Nj := some 14) #[true, true, true, false, false, false, false, false, false, false] #[true, true, false, false, false, false, false, true, false, false] rfl rfl rfl rfl (two_of HT_.out (by kernel_rfl)) (by decide) (by decide) (fun K hK => ?_) (fun K hK => ?_)
     ·skip
      refine goes_ Tryd.func24 (by kernel_rfl) rfl #[.int .i64 a3] (by rfl) rfl rfl zq2 ?_
      with_reducible refine (Q1Int.calls k1 a3 t790 t791 t792 _ A33.out).mono ?_
      rintro e w36 ⟨rfl, hb⟩
      refine ⟨_, rfl, ?_⟩
      have n0_ := bB BK788 hb
      have n1_ := bB BK789 hb
      have n2_ := sB hb
      revert n0_ n1_ n2_
      clear BK788 BK789 HB
      intro BK788 BK789 HB
      (try clear hb); (try clear hb2); (try clear hk); (try clear hi)
      refine hK.out _ _ ⟨cA BK789 0, cA BK789 1, cA BK789 2⟩ (fun hHeld => ?_)
      clear hK K
      refine normA (N := 58) ?_
      refine two_ (i := 3) (j := 7) (Ni := some 59) (Nj := some 14) #[true, true, true, true, false, false, false, false, false, false] #[true, true, true, false, false, false, false, true, false, false] rfl rfl rfl rfl (two_of HT_.out (by kernel_rfl)) (by decide) (by decide) (fun K hK => ?_) (fun K hK => ?_)
      ·skip
       refine goes_ Tryd.func25 (by kernel_rfl) rfl #[.agg #[.bool x790000_1, .string x790001_1, .string x790002_1], .agg #[.bool t790, .string t791, .string t792]] (by rfl) rfl rfl zq2 ?_
       with_reducible refine (Q1Divide.calls k1 x790000_1 x790001_1 x790002_1 t790 t791 t792 t793 t794 t795 t796 _ A34.out).mono ?_
       rintro e w37 ⟨rfl, hb⟩
       refine ⟨_, rfl, ?_⟩
       have n0_ := bB BK788 hb
       have n1_ := bB BK789 hb
       have n2_ := sB hb
       revert n0_ n1_ n2_
       clear BK788 BK789 HB
       intro BK788 BK789 HB
       (try clear hb); (try clear hb2); (try clear hk); (try clear hi)
       refine hK.out _ _ ⟨cA BK789 0, cA BK789 1, cA BK789 2⟩ (fun hHeld => ?_)
       clear hK K
       refine normA (N := 59) ?_
       refine pureA 4 55 (lB 10 31) rfl rfl ?_
       refine pureA 5 60 (lB 10 63) rfl rfl ?_
       refine pureA 6 61 (lB 10 127) rfl rfl ?_
       refine one_ (i := 7) (N := some 14) (lB 10 255) rfl rfl (one_of HT_.out (by kernel_rfl)) (by decide) (fun K hK => ?_)
       refine box_step ?hg (N := 14) ?hd (cs := #[.bool false, .string (⟨#[]⟩ : ByteArray), .string (⟨#[]⟩ : ByteArray)]) (t := 29) ?hr ?_; (case hd => rfl); (case hg => rfl); (case hr => first | (go_simp; done) | (go_simp; rfl))
       intro gb797 hg w38 hbox hb
       have n0_ := bB BK788 hb
       have n1_ := bB BK789 hb
       have n2_ := sB hb
       have n3_ := Aside0.mk (hbox)
       have n4_ := wE w hg
       have n5_ := wE w hg
       have n6_ := Aside0.mk (nL BK788 hg)
       have n7_ := Aside0.mk (nG BK788 hg)
       have n8_ := Aside0.mk (nL BK789 hg)
       have n9_ := Aside0.mk (nG BK789 hg)
       clear BK788 BK789 HB
       have BK788 := n0_
       have BK789 := n1_
       have HB := n2_
       have BK797 := n3_
       have GW797 := n4_
       have GE797 := n5_
       have NB788_797 := n6_
       have NB797_788 := n7_
       have NB789_797 := n8_
       have NB797_789 := n9_
       clear n0_ n1_ n2_ n3_ n4_ n5_ n6_ n7_ n8_ n9_ hb hbox hg
       refine hK.out _ _ ⟨cA BK789 0, cA BK789 1, cA BK789 2⟩ (fun hHeld => ?_)
       clear hK K
       refine normA (N := 14) ?_
       exact norm_ (by simp only [putAll, Act.put, List.setIfInBounds_toArray, List.set_cons_zero, List.set_cons_succ]) (hCont (gb797) _ ⟨hHeld, (by (with_reducible repeat (first | refine blk_drewN ?_ _ | refine blk_drew ?_ | refine blk_alloc ?_ _)); exact BK788.out), (by (with_reducible repeat (first | refine blk_drewN ?_ _ | refine blk_drew ?_ | refine blk_alloc ?_ _)); exact BK789.out), (by (with_reducible repeat (first | refine blk_drewN ?_ _ | refine blk_drew ?_ | refine blk_alloc ?_ _)); exact BK797.out), GW797.out, GE797.out, NB788_797.out, NB797_788.out, NB789_797.out, NB797_789.out, zH⟩)
      ·skip
       refine box_step ?hg (N := 14) ?hd (cs := #[.bool false, .string (⟨#[]⟩ : ByteArray), .string (⟨#[]⟩ : ByteArray)]) (t := 29) ?hr ?_; (case hd => rfl); (case hg => rfl); (case hr => first | (go_simp; done) | (go_simp; rfl))
       intro gb797 hg w37 hbox hb
       have n0_ := bB BK788 hb
       have n1_ := bB BK789 hb
       have n2_ := sB hb
       have n3_ := Aside0.mk (hbox)
       have n4_ := wE w hg
       have n5_ := wE w hg
       have n6_ := Aside0.mk (nL BK788 hg)
       have n7_ := Aside0.mk (nG BK788 hg)
       have n8_ := Aside0.mk (nL BK789 hg)
       have n9_ := Aside0.mk (nG BK789 hg)
       clear BK788 BK789 HB
       have BK788 := n0_
       have BK789 := n1_
       have HB := n2_
       have BK797 := n3_
       have GW797 := n4_
       have GE797 := n5_
       have NB788_797 := n6_
       have NB797_788 := n7_
       have NB789_797 := n8_
       have NB797_789 := n9_
       clear n0_ n1_ n2_ n3_ n4_ n5_ n6_ n7_ n8_ n9_ hb hbox hg
       refine hK.out _ _ ⟨cA BK789 0, cA BK789 1, cA BK789 2⟩ (fun hHeld => ?_)
       clear hK K
       refine normA (N := 14) ?_
       refine one_ (i := 3) (N := some 59) (lB 10 143) rfl rfl (one_of HT_.out (by kernel_rfl)) (by decide) (fun K hK => ?_)
       refine goes_ Tryd.func25 (by kernel_rfl) rfl #[.agg #[.bool x790000_1, .string x790001_1, .string x790002_1], .agg #[.bool t790, .string t791, .string t792]] (by rfl) rfl rfl zq2 ?_
       with_reducible refine (Q1Divide.calls k1 x790000_1 x790001_1 x790002_1 t790 t791 t792 t793 t794 t795 t796 _ A34.out).mono ?_
       rintro e w38 ⟨rfl, hb⟩
       refine ⟨_, rfl, ?_⟩
       have n0_ := bB BK788 hb
       have n1_ := bB BK789 hb
       have n2_ := bB BK797 hb
       have n3_ := sB hb
       revert n0_ n1_ n2_ n3_
       clear BK788 BK789 BK797 HB
       intro BK788 BK789 BK797 HB
       (try clear hb); (try clear hb2); (try clear hk); (try clear hi)
       refine hK.out _ _ ⟨cA BK789 0, cA BK789 1, cA BK789 2⟩ (fun hHeld => ?_)
       clear hK K
       refine normA (N := 59) ?_
       refine pureA 4 55 (lB 10 159) rfl rfl ?_
       refine pureA 5 60 (lB 10 191) rfl rfl ?_
       refine pureA 6 61 (lB 10 255) rfl rfl ?_
       exact norm_ (by simp only [putAll, Act.put, List.setIfInBounds_toArray, List.set_cons_zero, List.set_cons_succ]) (hCont (gb797) _ ⟨hHeld, (by (with_reducible repeat (first | refine blk_drewN ?_ _ | refine blk_drew ?_ | refine blk_alloc ?_ _)); exact BK788.out), (by (with_reducible repeat (first | refine blk_drewN ?_ _ | refine blk_drew ?_ | refine blk_alloc ?_ _)); exact BK789.out), (by (with_reducible repeat (first | refine blk_drewN ?_ _ | refine blk_drew ?_ | refine blk_alloc ?_ _)); exact BK797.out), GW797.out, GE797.out, NB788_797.out, NB797_788.out, NB789_797.out, NB797_789.out, zH⟩)
     ·skip
      refine box_step ?hg (N := 14) ?hd (cs := #[.bool false, .string (⟨#[]⟩ : ByteArray), .string (⟨#[]⟩ : ByteArray)]) (t := 29) ?hr ?_; (case hd => rfl); (case hg => rfl); (case hr => first | (go_simp; done) | (go_simp; rfl))
      intro gb797 hg w36 hbox hb
      have n0_ := bB BK788 hb
      have n1_ := bB BK789 hb
      have n2_ := sB hb
      have n3_ := Aside0.mk (hbox)
      have n4_ := wE w hg
      have n5_ := wE w hg
      have n6_ := Aside0.mk (nL BK788 hg)
      have n7_ := Aside0.mk (nG BK788 hg)
      have n8_ := Aside0.mk (nL BK789 hg)
      have n9_ := Aside0.mk (nG BK789 hg)
      clear BK788 BK789 HB
      have BK788 := n0_
      have BK789 := n1_
      have HB := n2_
      have BK797 := n3_
      have GW797 := n4_
      have GE797 := n5_
      have NB788_797 := n6_
      have NB797_788 := n7_
      have NB789_797 := n8_
      have NB797_789 := n9_
      clear n0_ n1_ n2_ n3_ n4_ n5_ n6_ n7_ n8_ n9_ hb hbox hg
      refine hK.out _ _ ⟨cA BK789 0, cA BK789 1, cA BK789 2⟩ (fun hHeld => ?_)
      clear hK K
      refine normA (N := 14) ?_
      refine one_ (i := 2) (N := some 58) (lB 10 135) rfl rfl (one_of HT_.out (by kernel_rfl)) (by decide) (fun K hK => ?_)
      refine goes_ Tryd.func24 (by kernel_rfl) rfl #[.int .i64 a3] (by rfl) rfl rfl zq2 ?_
      with_reducible refine (Q1Int.calls k1 a3 t790 t791 t792 _ A33.out).mono ?_
      rintro e w37 ⟨rfl, hb⟩
      refine ⟨_, rfl, ?_⟩
      have n0_ := bB BK788 hb
      have n1_ := bB BK789 hb
      have n2_ := bB BK797 hb
      have n3_ := sB hb
      revert n0_ n1_ n2_ n3_
      clear BK788 BK789 BK797 HB
      intro BK788 BK789 BK797 HB
      (try clear hb); (try clear hb2); (try clear hk); (try clear hi)
      refine hK.out _ _ ⟨cA BK789 0, cA BK789 1, cA BK789 2⟩ (fun hHeld => ?_)
      clear hK K
      refine normA (N := 58) ?_
      refine one_ (i := 3) (N := some 59) (lB 10 143) rfl rfl (one_of HT_.out (by kernel_rfl)) (by decide) (fun K hK => ?_)
      refine goes_ Tryd.func25 (by kernel_rfl) rfl #[.agg #[.bool x790000_1, .string x790001_1, .string x790002_1], .agg #[.bool t790, .string t791, .string t792]] (by rfl) rfl rfl zq2 ?_
      with_reducible refine (Q1Divide.calls k1 x790000_1 x790001_1 x790002_1 t790 t791 t792 t793 t794 t795 t796 _ A34.out).mono ?_
      rintro e w38 ⟨rfl, hb⟩
      refine ⟨_, rfl, ?_⟩
      have n0_ := bB BK788 hb
      have n1_ := bB BK789 hb
      have n2_ := bB BK797 hb
      have n3_ := sB hb
      revert n0_ n1_ n2_ n3_
      clear BK788 BK789 BK797 HB
      intro BK788 BK789 BK797 HB
      (try clear hb); (try clear hb2); (try clear hk); (try clear hi)
      refine hK.out _ _ ⟨cA BK789 0, cA BK789 1, cA BK789 2⟩ (fun hHeld => ?_)
      clear hK K
      refine normA (N := 59) ?_
      refine pureA 4 55 (lB 10 159) rfl rfl ?_
      refine pureA 5 60 (lB 10 191) rfl rfl ?_
      refine pureA 6 61 (lB 10 255) rfl rfl ?_
      exact norm_ (by simp only [putAll, Act.put, List.setIfInBounds_toArray, List.set_cons_zero, List.set_cons_succ]) (hCont (gb797) _ ⟨hHeld, (by (with_reducible repeat (first | refine blk_drewN ?_ _ | refine blk_drew ?_ | refine blk_alloc ?_ _)); exact BK788.out), (by (with_reducible repeat (first | refine blk_drewN ?_ _ | refine blk_drew ?_ | refine blk_alloc ?_ _)); exact BK789.out), (by (with_reducible repeat (first | refine blk_drewN ?_ _ | refine blk_drew ?_ | refine blk_alloc ?_ _)); exact BK797.out), GW797.out, GE797.out, NB788_797.out, NB797_788.out, NB789_797.out, NB797_789.out, zH⟩)
    rintro gb797 w39 ⟨hS_, h0_, h1_, h2_, h3_, h4_, h5_, h6_, h7_, h8_, h9_⟩
    have n0_ : Aside0 (w39.heap[gb788]? = some (.cells #[.bool false, .string (⟨#[]⟩ : ByteArray), .string (⟨#[]⟩ : ByteArray)] 29 (0, 0))) := ⟨h0_⟩
    have n1_ : Aside0 (w39.heap[gb789]? = some (.cells #[.bool x790000_1, .string x790001_1, .string x790002_1] 29 (0, 0))) := ⟨h1_⟩
    have n2_ : Aside0 (w39.heap[gb797]? = some (.cells #[.bool false, .string (⟨#[]⟩ : ByteArray), .string (⟨#[]⟩ : ByteArray)] 29 (0, 0))) := ⟨h2_⟩
    have n3_ : Aside0 (w.heap.size ≤ gb797) := ⟨h3_⟩
    have n4_ : Aside0 (w.heap.size ≤ gb797) := ⟨h4_⟩
    have n5_ : Aside0 (gb788 ≠ gb797) := ⟨h5_⟩
    have n6_ : Aside0 (gb797 ≠ gb788) := ⟨h6_⟩
    have n7_ : Aside0 (gb789 ≠ gb797) := ⟨h7_⟩
    have n8_ : Aside0 (gb797 ≠ gb789) := ⟨h8_⟩
    have n9_ : Aside0 (Below w.heap.size w w39) := ⟨h9_⟩
    revert n0_ n1_ n2_ n3_ n4_ n5_ n6_ n7_ n8_ n9_
    clear BK788 BK789 HB h0_ h1_ h2_ h3_ h4_ h5_ h6_ h7_ h8_ h9_
    intro BK788 BK789 BK797 GW797 GE797 NB788_797 NB797_788 NB789_797 NB797_789 HB
    have hHeld : w39.cell? ⟨gb789, 0, none⟩ = some (.bool x790000_1) ∧ w39.cell? ⟨gb789, 1, none⟩ = some (.string x790001_1) ∧ w39.cell? ⟨gb789, 2, none⟩ = some (.string x790002_1) := hS_
    refine norm_ (a' := ?_) ?_ ?_
    rotate_left
    ·simp only [putAll, Act.put, List.setIfInBounds_toArray, List.set_cons_zero, List.set_cons_succ]
     rfl
    refine one_ (i := 8) (N := none) (lB 10 511) rfl rfl (one_of HT_.out (by kernel_rfl)) (by decide) (fun K hK => ?_)
    have hs40 := cB BK797 0 (.bool false)
    have hfs40 := blk_frozen BK797.out 0
    have hns40_0 := NB788_797.out
    have hns40_1 := NB789_797.out
    have hms40_0 := NB797_788.out
    have hms40_1 := NB797_789.out
    have hs41 := cB BK797 1 (.string (⟨#[]⟩ : ByteArray))
    have hfs41 := blk_frozen BK797.out 1
    have hns41_0 := NB788_797.out
    have hns41_1 := NB789_797.out
    have hms41_0 := NB797_788.out
    have hms41_1 := NB797_789.out
    have hs42 := cB BK797 2 (.string (⟨#[]⟩ : ByteArray))
    have hfs42 := blk_frozen BK797.out 2
    have hns42_0 := NB788_797.out
    have hns42_1 := NB789_797.out
    have hms42_0 := NB797_788.out
    have hms42_1 := NB797_789.out
    refine skip_ (w1 := ?_) (by rfl) rfl ?_ ?_
    rotate_left
    ·go_simp
     rfl
    refine hK.out _ _ ⟨((cell_far (p := ⟨gb797, _, none⟩) NB789_797.out _).trans (((cell_far (p := ⟨gb797, _, none⟩) NB789_797.out _).trans (((cell_far (p := ⟨gb797, _, none⟩) NB789_797.out _).trans (hHeld.1)))))), ((cell_far (p := ⟨gb797, _, none⟩) NB789_797.out _).trans (((cell_far (p := ⟨gb797, _, none⟩) NB789_797.out _).trans (((cell_far (p := ⟨gb797, _, none⟩) NB789_797.out _).trans (hHeld.2.1)))))), ((cell_far (p := ⟨gb797, _, none⟩) NB789_797.out _).trans (((cell_far (p := ⟨gb797, _, none⟩) NB789_797.out _).trans (((cell_far (p := ⟨gb797, _, none⟩) NB789_797.out _).trans (hHeld.2.2))))))⟩ (fun hHeld => ?_)
    clear hK K
    refine pureA 9 15 (lB 10 1023) rfl rfl ?_
    refine done_ (done_of HT_.out (by kernel_rfl)) ?_
    have hnb43 := NB797_788.out
    have hnc43 := NB788_797.out
    have hnb44 := NB797_789.out
    have hnc44 := NB789_797.out
    have hcz45_0 := cB BK797 0 (.bool false)
    have hcz45_1 := cB BK797 1 (.string (⟨#[]⟩ : ByteArray))
    have hcz45_2 := cB BK797 2 (.string (⟨#[]⟩ : ByteArray))
    have hfz45_0 := blk_frozen BK797.out 0
    have hfz45_1 := blk_frozen BK797.out 1
    have hfz45_2 := blk_frozen BK797.out 2
    have hnb46 := NB788_789.out
    have hnc46 := NB789_788.out
    have hcz47_0 := cB BK788 0 (.bool false)
    have hcz47_1 := cB BK788 1 (.string (⟨#[]⟩ : ByteArray))
    have hcz47_2 := cB BK788 2 (.string (⟨#[]⟩ : ByteArray))
    have hfz47_0 := blk_frozen BK788.out 0
    have hfz47_1 := blk_frozen BK788.out 1
    have hfz47_2 := blk_frozen BK788.out 2
    try go_wp2
    refine bodyPost_ret (results_cell_row rfl _ _ gb788 29 #[.bool t793, .string t794, .string t795] (0, 0) _ rfl (bC BK788) Tryd.underlying29 rfl (by kernel_rfl)) rfl ?_
    exact ⟨zE, zH⟩
end Go.Proofs.YtggfilmdfpmbmaaDoor.QN
end
section
namespace Go.Proofs.YtggfilmdfpmbmaaDoor.QN
open Go.RowKit Go.Proofs.YtggfilmdfpmbmaaDoorW.PrintWords Go.Proofs.YtggfilmdfpmbmaaDoorW.PrintLast Go.Proofs.YtggfilmdfpmbmaaDoorW.PrintMore
attribute [local go_sem] max2_int min2_int max_two min_two max_three min_three max_four min_four   -- for this text's walks alone
set_option linter.unusedVariables false
set_option linter.unusedSimpArgs false
attribute [local go_sem high] eqA29
def I1Simple.f (k : Nat) (a0_0 : Bool) (a0_1 : ByteArray) (a0_2 : ByteArray) (l1 : List (S54)) (a2 : Int) (a3 : Int) (a4 : Int) : Option (Bool × ByteArray × ByteArray × Int) := (I1check.f k a0_0 a0_1 a0_2 l1 a2 a3 a4 1).bind fun t812 => (if t812 = 0 then ((I1simple.f k l1 a2 a3 a4).bind fun bt813 => ((Q1Multiply.f k a0_0 a0_1 a0_2 bt813.1 bt813.2.1 bt813.2.2).bind fun bt816 => (some (bt816.1, bt816.2.1, bt816.2.2, 0)))) else (some (false, (⟨#[]⟩ : ByteArray), (⟨#[]⟩ : ByteArray), t812)))
def I1Simple.T4 : Bool × List (List Nat × List Nat) := (true, [([], []), ([], []), ([], []), ([], []), ([], []), ([1, 2, 3, 4], [1, 2, 3, 4]), ([0, 5, 5], [0, 5]), ([6, 6, 0, 1, 2, 3, 4, 5, 6], [6]), ([7, 0, 1, 2, 3, 4, 5, 6, 7], [])])
def I1Simple.B4 : List Nat := [0, 0, 0, 0, 0, 30, 63, 127, 255]
theorem I1Simple.tab4 : rtab .any (opsOf Tryd.f15 4) = I1Simple.T4 := by kernel_rfl
theorem I1Simple.bits4 : waitsOk I1Simple.T4.2 I1Simple.B4 = true := by kernel_rfl
set_option maxHeartbeats 8000000 in
set_option maxRecDepth 100000 in
theorem I1Simple.calls (k : Nat) (a0_0 : Bool) (a0_1 : ByteArray) (a0_2 : ByteArray) (A1 : Option Addr) (c1 : Nat) (l1 : List (S54)) (a2 : Int) (a3 : Int) (a4 : Int) (r1 : Bool) (r2 : ByteArray) (r3 : ByteArray) (r4 : Int) (w : World) (hr1 : Kd.C k54 w A1 l1.length l1) (hc1 : l1.length ≤ c1) (h : I1Simple.f k a0_0 a0_1 a0_2 l1 a2 a3 a4 = some (r1, r2, r3, r4)) :
 Calls Tryd.prog 15 #[.agg #[.bool a0_0, .string a0_1, .string a0_2], .slice A1 l1.length c1, .int .i64 a2, .int .i64 a3, .int .i64 a4] w fun e w' => e = .returned (.tuple #[.agg #[.bool r1, .string r2, .string r3], .int .i64 r4]) ∧ Below w.heap.size w w' := by
 have hu29 := Tryd.underlying29
 have HR1 := Aside0.mk hr1
 have HC1 := Aside0.mk hc1
 clear hr1 hc1
 have HB := Aside0.mk (Below.refl w.heap.size w)
 have H : ((I1check.f k a0_0 a0_1 a0_2 l1 a2 a3 a4 1).bind fun t812 => (if t812 = 0 then ((I1simple.f k l1 a2 a3 a4).bind fun bt813 => ((Q1Multiply.f k a0_0 a0_1 a0_2 bt813.1 bt813.2.1 bt813.2.2).bind fun bt816 => (some (bt816.1, bt816.2.1, bt816.2.2, 0)))) else (some (false, (⟨#[]⟩ : ByteArray), (⟨#[]⟩ : ByteArray), t812)))) = some (r1, r2, r3, r4) := h
 clear h
 replace H := Option.bind_eq_some_iff.mp H
 obtain ⟨t812, A60, H⟩ := H
 (try dsimp only at H)
 have A6 := Aside0.mk A60
 clear A60
 by_cases c7 : t812 = 0
 ·rw [if_pos c7] at H
  have c7b0 := beq_iff_eq.mpr c7
  have c7b1 : (t812 != 0) = false := bne_eq_false_iff_eq.mpr c7
  clear c7
  replace H := Option.bind_eq_some_iff.mp H
  obtain ⟨⟨t813, t814, t815⟩, A80, H⟩ := H
  (try dsimp only at H)
  have A8 := Aside0.mk A80
  clear A80
  replace H := Option.bind_eq_some_iff.mp H
  obtain ⟨⟨t816, t817, t818⟩, A90, H⟩ := H
  (try dsimp only at H)
  have A9 := Aside0.mk A90
  clear A90
  simp only [Option.some.injEq, Prod.mk.injEq] at H
  obtain ⟨rfl, rfl, rfl, rfl⟩ := H
  go_enter Tryd.func15, Tryd.ntmps15
  try go_wp2_with (first | (refine box_evA 5 #[.bool a0_0, .string a0_1, .string a0_2] 29 ?_; intro gb810 hg w10 hbox hb; have n0_ := sB hb; have n1_ := Aside0.mk (hbox); have n2_ := wE w hg; have n3_ := wE w hg; revert n0_ n1_ n2_ n3_; clear HB; intro HB BK810 GW810 GE810; clear hb hbox hg) | (refine box_evA 10 #[.bool false, .string (⟨#[]⟩ : ByteArray), .string (⟨#[]⟩ : ByteArray)] 29 ?_; intro gb811 hg w11 hbox hb; have n0_ := bB BK810 hb; have n1_ := sB hb; have n2_ := Aside0.mk (hbox); have n3_ := wE w hg; have n4_ := wE w hg; have n5_ := Aside0.mk (nL BK810 hg); have n6_ := Aside0.mk (nG BK810 hg); revert n0_ n1_ n2_ n3_ n4_ n5_ n6_; clear BK810 HB; intro BK810 HB BK811 GW811 GE811 NB810_811 NB811_810; clear hb hbox hg; have hnb12 := NB810_811.out; have hnc12 := NB811_810.out; have hcz13_0 := cB BK810 0 (.bool a0_0); have hcz13_1 := cB BK810 1 (.string a0_1); have hcz13_2 := cB BK810 2 (.string a0_2); have hfz13_0 := blk_frozen BK810.out 0; have hfz13_1 := blk_frozen BK810.out 1; have hfz13_2 := blk_frozen BK810.out 2) | (refine goesLA 18 Tryd.func33 #[.agg #[.bool a0_0, .string a0_1, .string a0_2], .slice A1 l1.length c1, .int .i64 a2, .int .i64 a3, .int .i64 a4, .int .i64 1] ?_; (with_reducible refine (I1check.calls k a0_0 a0_1 a0_2 _ _ l1 a2 a3 a4 1 t812 _ ?side1 ?side2 A6.out).mono ?_); (case side1 => repeat (first | exact (Kd.C_below HR1.out HB.out) | (with_reducible refine Kd.C_alloc ?_ _) | (with_reducible refine Kd.C_drewN ?_ _) | (with_reducible refine Kd.C_drew ?_))); (case side2 => exact HC1.out); rintro e w14 ⟨rfl, hb⟩; refine ⟨_, rfl, ?_⟩; have n0_ := bB BK810 hb; have n1_ := bB BK811 hb; have n2_ := sB hb; revert n0_ n1_ n2_; clear BK810 BK811 HB; intro BK810 BK811 HB; (try clear hb); (try clear hb2); (try clear hk); (try clear hi)))
  have n0_ := Aside0.mk (blk_drew BK810.out)
  have n1_ := Aside0.mk (blk_drew BK811.out)
  have n2_ := Aside0.mk (below_drew1 HB.out)
  revert n0_ n1_ n2_
  clear BK810 BK811 HB
  intro BK810 BK811 HB
  refine start_ (n := 9) (S := fun w' => w'.cell? ⟨gb810, 0, none⟩ = some (.bool a0_0) ∧ w'.cell? ⟨gb810, 1, none⟩ = some (.string a0_1) ∧ w'.cell? ⟨gb810, 2, none⟩ = some (.string a0_2)) (ds := []) #[false, false, false, false, false, false, false, false, false] (by kernel_rfl) rfl rfl ⟨cA BK810 0, cA BK810 1, cA BK810 2⟩ (fun hHeld => ?_); refine with_tabW I1Simple.tab4 I1Simple.bits4 (fun HT_ HW_ => ?_)
  generalize w14.drew = w15 at BK810 BK811 HB hHeld ⊢
  refine pureA 1 24 (lB 9 2) rfl rfl ?_
  refine pureA 2 25 (lB 9 6) rfl rfl ?_
  refine pureA 3 26 (lB 9 14) rfl rfl ?_
  refine pureA 4 27 (lB 9 30) rfl rfl ?_
  refine takeA 0 23 (lB 9 31) rfl rfl hHeld ?_
  refine one_ (i := 5) (N := some 28) (lB 9 63) rfl rfl (one_of HT_.out (by kernel_rfl)) (by decide) (fun K hK => ?_)
  refine goes_ Tryd.func34 (by kernel_rfl) rfl #[.slice A1 l1.length c1, .int .i64 a2, .int .i64 a3, .int .i64 a4] (by rfl) rfl rfl zq2 ?_
  with_reducible refine (I1simple.calls k _ _ l1 a2 a3 a4 t813 t814 t815 _ ?side1 ?side2 A8.out).mono ?_
  (case side1 => repeat (first | exact (Kd.C_below HR1.out HB.out) | (with_reducible refine Kd.C_alloc ?_ _) | (with_reducible refine Kd.C_drewN ?_ _) | (with_reducible refine Kd.C_drew ?_)))
  (case side2 => exact HC1.out)
  rintro e w16 ⟨rfl, hb⟩
  refine ⟨_, rfl, ?_⟩
  have n0_ := bB BK810 hb
  have n1_ := bB BK811 hb
  have n2_ := sB hb
  revert n0_ n1_ n2_
  clear BK810 BK811 HB
  intro BK810 BK811 HB
  (try clear hb); (try clear hb2); (try clear hk); (try clear hi)
  refine hK.out _ _ ⟨cA BK810 0, cA BK810 1, cA BK810 2⟩ (fun hHeld => ?_)
  clear hK K
  refine normA (N := 28) ?_
  refine one_ (i := 6) (N := some 29) (lB 9 127) rfl rfl (one_of HT_.out (by kernel_rfl)) (by decide) (fun K hK => ?_)
  refine goes_ Tryd.func19 (by kernel_rfl) rfl #[.agg #[.bool a0_0, .string a0_1, .string a0_2], .agg #[.bool t813, .string t814, .string t815]] (by rfl) rfl rfl zq2 ?_
  with_reducible refine (Q1Multiply.calls k a0_0 a0_1 a0_2 t813 t814 t815 t816 t817 t818 _ A9.out).mono ?_
  rintro e w17 ⟨rfl, hb⟩
  refine ⟨_, rfl, ?_⟩
  have n0_ := bB BK810 hb
  have n1_ := bB BK811 hb
  have n2_ := sB hb
  revert n0_ n1_ n2_
  clear BK810 BK811 HB
  intro BK810 BK811 HB
  (try clear hb); (try clear hb2); (try clear hk); (try clear hi)
  refine hK.out _ _ ⟨cA BK810 0, cA BK810 1, cA BK810 2⟩ (fun hHeld => ?_)
  clear hK K
  refine normA (N := 29) ?_
  refine one_ (i := 7) (N := none) (lB 9 255) rfl rfl (one_of HT_.out (by kernel_rfl)) (by decide) (fun K hK => ?_)
  have hs18 := cB BK811 0 (.bool false)
  have hfs18 := blk_frozen BK811.out 0
  have hns18_0 := NB810_811.out
  have hms18_0 := NB811_810.out
  have hs19 := cB BK811 1 (.string (⟨#[]⟩ : ByteArray))
  have hfs19 := blk_frozen BK811.out 1
  have hns19_0 := NB810_811.out
  have hms19_0 := NB811_810.out
  have hs20 := cB BK811 2 (.string (⟨#[]⟩ : ByteArray))
  have hfs20 := blk_frozen BK811.out 2
  have hns20_0 := NB810_811.out
  have hms20_0 := NB811_810.out
  refine skip_ (w1 := ?_) (by rfl) rfl ?_ ?_
  rotate_left
  ·go_simp
   rfl
  refine hK.out _ _ ⟨((cell_far (p := ⟨gb811, _, none⟩) NB810_811.out _).trans (((cell_far (p := ⟨gb811, _, none⟩) NB810_811.out _).trans (((cell_far (p := ⟨gb811, _, none⟩) NB810_811.out _).trans (hHeld.1)))))), ((cell_far (p := ⟨gb811, _, none⟩) NB810_811.out _).trans (((cell_far (p := ⟨gb811, _, none⟩) NB810_811.out _).trans (((cell_far (p := ⟨gb811, _, none⟩) NB810_811.out _).trans (hHeld.2.1)))))), ((cell_far (p := ⟨gb811, _, none⟩) NB810_811.out _).trans (((cell_far (p := ⟨gb811, _, none⟩) NB810_811.out _).trans (((cell_far (p := ⟨gb811, _, none⟩) NB810_811.out _).trans (hHeld.2.2))))))⟩ (fun hHeld => ?_)
  clear hK K
  refine pureA 8 11 (lB 9 511) rfl rfl ?_
  refine done_ (done_of HT_.out (by kernel_rfl)) ?_
  try go_wp2
  refine bodyPost_ret (results_ct rfl _ _ gb811 29 #[.bool t816, .string t817, .string t818] (0, 0) _ rfl (bC BK811) Tryd.underlying29 rfl (by kernel_rfl)) rfl ?_
  exact ⟨zE, zH⟩
 ·rw [if_neg c7] at H
  have c7b0 := beq_eq_false_iff_ne.mpr c7
  have c7b1 := bne_iff_ne.mpr c7
  simp only [Option.some.injEq, Prod.mk.injEq] at H
  obtain ⟨rfl, rfl, rfl, rfl⟩ := H
  go_enter Tryd.func15, Tryd.ntmps15
  go_wp2_with (first | (refine box_evA 5 #[.bool a0_0, .string a0_1, .string a0_2] 29 ?_; intro gb810 hg w21 hbox hb; have n0_ := sB hb; have n1_ := Aside0.mk (hbox); have n2_ := wE w hg; have n3_ := wE w hg; revert n0_ n1_ n2_ n3_; clear HB; intro HB BK810 GW810 GE810; clear hb hbox hg) | (refine box_evA 10 #[.bool false, .string (⟨#[]⟩ : ByteArray), .string (⟨#[]⟩ : ByteArray)] 29 ?_; intro gb811 hg w22 hbox hb; have n0_ := bB BK810 hb; have n1_ := sB hb; have n2_ := Aside0.mk (hbox); have n3_ := wE w hg; have n4_ := wE w hg; have n5_ := Aside0.mk (nL BK810 hg); have n6_ := Aside0.mk (nG BK810 hg); revert n0_ n1_ n2_ n3_ n4_ n5_ n6_; clear BK810 HB; intro BK810 HB BK811 GW811 GE811 NB810_811 NB811_810; clear hb hbox hg; have hnb23 := NB810_811.out; have hnc23 := NB811_810.out; have hcz24_0 := cB BK810 0 (.bool a0_0); have hcz24_1 := cB BK810 1 (.string a0_1); have hcz24_2 := cB BK810 2 (.string a0_2); have hfz24_0 := blk_frozen BK810.out 0; have hfz24_1 := blk_frozen BK810.out 1; have hfz24_2 := blk_frozen BK810.out 2) | (refine goesLA 18 Tryd.func33 #[.agg #[.bool a0_0, .string a0_1, .string a0_2], .slice A1 l1.length c1, .int .i64 a2, .int .i64 a3, .int .i64 a4, .int .i64 1] ?_; (with_reducible refine (I1check.calls k a0_0 a0_1 a0_2 _ _ l1 a2 a3 a4 1 t812 _ ?side1 ?side2 A6.out).mono ?_); (case side1 => repeat (first | exact (Kd.C_below HR1.out HB.out) | (with_reducible refine Kd.C_alloc ?_ _) | (with_reducible refine Kd.C_drewN ?_ _) | (with_reducible refine Kd.C_drew ?_))); (case side2 => exact HC1.out); rintro e w25 ⟨rfl, hb⟩; refine ⟨_, rfl, ?_⟩; have n0_ := bB BK810 hb; have n1_ := bB BK811 hb; have n2_ := sB hb; revert n0_ n1_ n2_; clear BK810 BK811 HB; intro BK810 BK811 HB; (try clear hb); (try clear hb2); (try clear hk); (try clear hi); have hcz26_0 := cB BK811 0 (.bool false); have hcz26_1 := cB BK811 1 (.string (⟨#[]⟩ : ByteArray)); have hcz26_2 := cB BK811 2 (.string (⟨#[]⟩ : ByteArray)); have hfz26_0 := blk_frozen BK811.out 0; have hfz26_1 := blk_frozen BK811.out 1; have hfz26_2 := blk_frozen BK811.out 2))
  refine bodyPost_ret (results_ct rfl _ _ gb811 29 #[.bool false, .string (⟨#[]⟩ : ByteArray), .string (⟨#[]⟩ : ByteArray)] (0, 0) _ rfl (bC BK811) Tryd.underlying29 rfl (by kernel_rfl)) rfl ?_
  exact ⟨zE, zH⟩
def I1Compound.l0 : Nat → List (S54) → Int → Int → Int → Int → Bool → ByteArray → ByteArray → Bool → ByteArray → ByteArray → Option (Bool × ByteArray × ByteArray × Int)
 | 0, _, _, _, _, _, _, _, _, _, _, _ => none
 | k + 1, x1, x3, x4, x5, x16, x820000, x820001, x820002, x826000, x826001, x826002 => if x16 < x3 then ((I1simple.f k x1 x16 (mn (wrap64 (x16 + x5)) x3) x4).bind fun bt826 => ((Q1Multiply.f k x826000 x826001 x826002 bt826.1 bt826.2.1 bt826.2.2).bind fun bt829 => ((Q1Add.f k x826000 x826001 x826002 bt829.1 bt829.2.1 bt829.2.2).bind fun bt832 => (I1Compound.l0 k x1 x3 x4 x5 (wrap64 (x16 + x5)) x820000 x820001 x820002 bt832.1 bt832.2.1 bt832.2.2)))) else ((Q1Subtract.f k x826000 x826001 x826002 x820000 x820001 x820002).bind fun bt835 => (some (bt835.1, bt835.2.1, bt835.2.2, 0)))
def I1Compound.f (k : Nat) (a0_0 : Bool) (a0_1 : ByteArray) (a0_2 : ByteArray) (l1 : List (S54)) (a2 : Int) (a3 : Int) (a4 : Int) (a5 : Int) : Option (Bool × ByteArray × ByteArray × Int) := (I1check.f k a0_0 a0_1 a0_2 l1 a2 a3 a4 a5).bind fun t821 => (if t821 = 0 then (if (mn a5 1048577) = 0 then (none) else (if (wrap64 (Int.tdiv (wrap64 ((wrap64 ((wrap64 (a3 - a2)) + (mn a5 1048577))) - 1)) (mn a5 1048577))) > 64 then (some (false, (⟨#[]⟩ : ByteArray), (⟨#[]⟩ : ByteArray), 2)) else ((Q1Add.f k a0_0 a0_1 a0_2 false (⟨#[]⟩ : ByteArray) (⟨#[]⟩ : ByteArray)).bind fun bt822 => (I1Compound.l0 k l1 a3 a4 (mn a5 1048577) a2 a0_0 a0_1 a0_2 bt822.1 bt822.2.1 bt822.2.2)))) else (some (false, (⟨#[]⟩ : ByteArray), (⟨#[]⟩ : ByteArray), t821)))
def I1Compound.T11 : Bool × List (List Nat × List Nat) := (true, [([], []), ([], []), ([], []), ([], []), ([], []), ([], []), ([4, 5], [4, 5]), ([], []), ([6, 7], [6, 7]), ([], []), ([2, 3, 8, 9], [2, 3, 8, 9]), ([1, 10, 10], [1, 10]), ([0, 11, 11], [0, 11]), ([12, 12, 0, 1, 2, 3, 4, 5, 6, 7, 8, 9, 10, 11, 12], [12])])
def I1Compound.B11 : List Nat := [0, 0, 0, 0, 0, 0, 48, 0, 240, 0, 1020, 2046, 4095, 8191]
theorem I1Compound.tab11 : rtab .any (opsOf Tryd.f21 11) = I1Compound.T11 := by kernel_rfl
theorem I1Compound.bits11 : waitsOk I1Compound.T11.2 I1Compound.B11 = true := by kernel_rfl
set_option maxHeartbeats 8000000 in
set_option maxRecDepth 100000 in
theorem I1Compound.calls (k : Nat) (a0_0 : Bool) (a0_1 : ByteArray) (a0_2 : ByteArray) (A1 : Option Addr) (c1 : Nat) (l1 : List (S54)) (a2 : Int) (a3 : Int) (a4 : Int) (a5 : Int) (r1 : Bool) (r2 : ByteArray) (r3 : ByteArray) (r4 : Int) (w : World) (hr1 : Kd.C k54 w A1 l1.length l1) (hc1 : l1.length ≤ c1) (h : I1Compound.f k a0_0 a0_1 a0_2 l1 a2 a3 a4 a5 = some (r1, r2, r3, r4)) :
 Calls Tryd.prog 21 #[.agg #[.bool a0_0, .string a0_1, .string a0_2], .slice A1 l1.length c1, .int .i64 a2, .int .i64 a3, .int .i64 a4, .int .i64 a5] w fun e w' => e = .returned (.tuple #[.agg #[.bool r1, .string r2, .string r3], .int .i64 r4]) ∧ Below w.heap.size w w' := by
 have hu29 := Tryd.underlying29
 have HR1 := Aside0.mk hr1
 have HC1 := Aside0.mk hc1
 clear hr1 hc1
 have HB := Aside0.mk (Below.refl w.heap.size w)
 have H : ((I1check.f k a0_0 a0_1 a0_2 l1 a2 a3 a4 a5).bind fun t821 => (if t821 = 0 then (if (mn a5 1048577) = 0 then (none) else (if (wrap64 (Int.tdiv (wrap64 ((wrap64 ((wrap64 (a3 - a2)) + (mn a5 1048577))) - 1)) (mn a5 1048577))) > 64 then (some (false, (⟨#[]⟩ : ByteArray), (⟨#[]⟩ : ByteArray), 2)) else ((Q1Add.f k a0_0 a0_1 a0_2 false (⟨#[]⟩ : ByteArray) (⟨#[]⟩ : ByteArray)).bind fun bt822 => (I1Compound.l0 k l1 a3 a4 (mn a5 1048577) a2 a0_0 a0_1 a0_2 bt822.1 bt822.2.1 bt822.2.2)))) else (some (false, (⟨#[]⟩ : ByteArray), (⟨#[]⟩ : ByteArray), t821)))) = some (r1, r2, r3, r4) := h
 clear h
 replace H := Option.bind_eq_some_iff.mp H
 obtain ⟨t821, A70, H⟩ := H
 (try dsimp only at H)
 have A7 := Aside0.mk A70
 clear A70
 by_cases c8 : t821 = 0
 ·rw [if_pos c8] at H
  have c8b0 := beq_iff_eq.mpr c8
  have c8b1 : (t821 != 0) = false := bne_eq_false_iff_eq.mpr c8
  clear c8
  obtain ⟨ji9, hji9⟩ : ∃ j_ : Int, (mn a5 1048577) = j_ := ⟨_, rfl⟩
  first | rw [hji9] at H | simp only [hji9] at H
  (try rw [hji9] at A7)
  (try (have hji9h : ji9 ≤ 1048577 := by (rw [← hji9]; unfold mn; (repeat' split) <;> omega)))
  (try (have hji9g : ji9 ≤ 64 := by omega))
  have hji9_ : (if 1048577 < a5 then 1048577 else a5) = ji9 := hji9
  by_cases c10 : (ji9) = 0
  ·rw [if_pos c10] at H
   exact absurd H (by simp)
  ·rw [if_neg c10] at H
   have c10b0 := beq_eq_false_iff_ne.mpr c10
   have c10b1 := bne_iff_ne.mpr c10
   by_cases c11 : (wrap64 (Int.tdiv (wrap64 ((wrap64 ((wrap64 (a3 - a2)) + (ji9))) - 1)) (ji9))) > 64
   ·rw [if_pos c11] at H
    have c11b0 := decide_eq_true c11
    clear c11
    simp only [Option.some.injEq, Prod.mk.injEq] at H
    obtain ⟨rfl, rfl, rfl, rfl⟩ := H
    go_enter Tryd.func21, Tryd.ntmps21
    go_wp2_with (first | (refine box_evA 6 #[.bool a0_0, .string a0_1, .string a0_2] 29 ?_; intro gb819 hg w12 hbox hb; have n0_ := sB hb; have n1_ := Aside0.mk (hbox); have n2_ := wE w hg; have n3_ := wE w hg; revert n0_ n1_ n2_ n3_; clear HB; intro HB BK819 GW819 GE819; clear hb hbox hg) | (refine box_evA 12 #[.bool false, .string (⟨#[]⟩ : ByteArray), .string (⟨#[]⟩ : ByteArray)] 29 ?_; intro gb820 hg w13 hbox hb; have n0_ := bB BK819 hb; have n1_ := sB hb; have n2_ := Aside0.mk (hbox); have n3_ := wE w hg; have n4_ := wE w hg; have n5_ := Aside0.mk (nL BK819 hg); have n6_ := Aside0.mk (nG BK819 hg); revert n0_ n1_ n2_ n3_ n4_ n5_ n6_; clear BK819 HB; intro BK819 HB BK820 GW820 GE820 NB819_820 NB820_819; clear hb hbox hg; have hnb14 := NB819_820.out; have hnc14 := NB820_819.out; have hcz15_0 := cB BK819 0 (.bool a0_0); have hcz15_1 := cB BK819 1 (.string a0_1); have hcz15_2 := cB BK819 2 (.string a0_2); have hfz15_0 := blk_frozen BK819.out 0; have hfz15_1 := blk_frozen BK819.out 1; have hfz15_2 := blk_frozen BK819.out 2) | (refine goesLA 23 Tryd.func33 #[.agg #[.bool a0_0, .string a0_1, .string a0_2], .slice A1 l1.length c1, .int .i64 a2, .int .i64 a3, .int .i64 a4, .int .i64 a5] ?_; (with_reducible refine (I1check.calls k a0_0 a0_1 a0_2 _ _ l1 a2 a3 a4 a5 t821 _ ?side1 ?side2 A7.out).mono ?_); (case side1 => repeat (first | exact (Kd.C_below HR1.out HB.out) | (with_reducible refine Kd.C_alloc ?_ _) | (with_reducible refine Kd.C_drewN ?_ _) | (with_reducible refine Kd.C_drew ?_))); (case side2 => exact HC1.out); rintro e w16 ⟨rfl, hb⟩; refine ⟨_, rfl, ?_⟩; have n0_ := bB BK819 hb; have n1_ := bB BK820 hb; have n2_ := sB hb; revert n0_ n1_ n2_; clear BK819 BK820 HB; intro BK819 BK820 HB; (try clear hb); (try clear hb2); (try clear hk); (try clear hi); have hcz17_0 := cB BK820 0 (.bool false); have hcz17_1 := cB BK820 1 (.string (⟨#[]⟩ : ByteArray)); have hcz17_2 := cB BK820 2 (.string (⟨#[]⟩ : ByteArray)); have hfz17_0 := blk_frozen BK820.out 0; have hfz17_1 := blk_frozen BK820.out 1; have hfz17_2 := blk_frozen BK820.out 2))
    refine bodyPost_ret (results_ct rfl _ _ gb820 29 #[.bool false, .string (⟨#[]⟩ : ByteArray), .string (⟨#[]⟩ : ByteArray)] (0, 0) _ rfl (bC BK820) Tryd.underlying29 rfl (by kernel_rfl)) rfl ?_
    exact ⟨by first | rfl | (simp [errW_none, errW_some] <;> rfl) | (simp only [← hji9]; first | rfl | (simp [errW_none, errW_some] <;> rfl)) | (simp [*, errW_none, errW_some] <;> rfl), zH⟩
   ·rw [if_neg c11] at H
    have c11b0 := decide_eq_false c11
    clear c11
    replace H := Option.bind_eq_some_iff.mp H
    obtain ⟨⟨t822, t823, t824⟩, A180, H⟩ := H
    (try dsimp only at H)
    have A18 := Aside0.mk A180
    clear A180
    have H' := Aside0.mk H
    clear H
    go_enter Tryd.func21, Tryd.ntmps21
    go_wp2_with (first | (refine box_evA 6 #[.bool a0_0, .string a0_1, .string a0_2] 29 ?_; intro gb819 hg w19 hbox hb; have n0_ := sB hb; have n1_ := Aside0.mk (hbox); have n2_ := wE w hg; have n3_ := wE w hg; revert n0_ n1_ n2_ n3_; clear HB; intro HB BK819 GW819 GE819; clear hb hbox hg) | (refine box_evA 12 #[.bool false, .string (⟨#[]⟩ : ByteArray), .string (⟨#[]⟩ : ByteArray)] 29 ?_; intro gb820 hg w20 hbox hb; have n0_ := bB BK819 hb; have n1_ := sB hb; have n2_ := Aside0.mk (hbox); have n3_ := wE w hg; have n4_ := wE w hg; have n5_ := Aside0.mk (nL BK819 hg); have n6_ := Aside0.mk (nG BK819 hg); revert n0_ n1_ n2_ n3_ n4_ n5_ n6_; clear BK819 HB; intro BK819 HB BK820 GW820 GE820 NB819_820 NB820_819; clear hb hbox hg; have hnb21 := NB819_820.out; have hnc21 := NB820_819.out; have hcz22_0 := cB BK819 0 (.bool a0_0); have hcz22_1 := cB BK819 1 (.string a0_1); have hcz22_2 := cB BK819 2 (.string a0_2); have hfz22_0 := blk_frozen BK819.out 0; have hfz22_1 := blk_frozen BK819.out 1; have hfz22_2 := blk_frozen BK819.out 2) | (refine goesLA 23 Tryd.func33 #[.agg #[.bool a0_0, .string a0_1, .string a0_2], .slice A1 l1.length c1, .int .i64 a2, .int .i64 a3, .int .i64 a4, .int .i64 a5] ?_; (with_reducible refine (I1check.calls k a0_0 a0_1 a0_2 _ _ l1 a2 a3 a4 a5 t821 _ ?side1 ?side2 A7.out).mono ?_); (case side1 => repeat (first | exact (Kd.C_below HR1.out HB.out) | (with_reducible refine Kd.C_alloc ?_ _) | (with_reducible refine Kd.C_drewN ?_ _) | (with_reducible refine Kd.C_drew ?_))); (case side2 => exact HC1.out); rintro e w23 ⟨rfl, hb⟩; refine ⟨_, rfl, ?_⟩; have n0_ := bB BK819 hb; have n1_ := bB BK820 hb; have n2_ := sB hb; revert n0_ n1_ n2_; clear BK819 BK820 HB; intro BK819 BK820 HB; (try clear hb); (try clear hb2); (try clear hk); (try clear hi); have hcz24_0 := cB BK819 0 (.bool a0_0); have hcz24_1 := cB BK819 1 (.string a0_1); have hcz24_2 := cB BK819 2 (.string a0_2); have hfz24_0 := blk_frozen BK819.out 0; have hfz24_1 := blk_frozen BK819.out 1; have hfz24_2 := blk_frozen BK819.out 2) | (refine goesLA 42 Tryd.func20 #[.agg #[.bool a0_0, .string a0_1, .string a0_2], .agg #[.bool false, .string (⟨#[]⟩ : ByteArray), .string (⟨#[]⟩ : ByteArray)]] ?_; (with_reducible refine (Q1Add.calls k a0_0 a0_1 a0_2 false (⟨#[]⟩ : ByteArray) (⟨#[]⟩ : ByteArray) t822 t823 t824 _ A18.out).mono ?_); rintro e w25 ⟨rfl, hb⟩; refine ⟨_, rfl, ?_⟩; have n0_ := bB BK819 hb; have n1_ := bB BK820 hb; have n2_ := sB hb; revert n0_ n1_ n2_; clear BK819 BK820 HB; intro BK819 BK820 HB; (try clear hb); (try clear hb2); (try clear hk); (try clear hi)) | (refine box_evA 15 #[.bool false, .string (⟨#[]⟩ : ByteArray), .string (⟨#[]⟩ : ByteArray)] 29 ?_; intro gb825 hg w26 hbox hb; have n0_ := bB BK819 hb; have n1_ := bB BK820 hb; have n2_ := sB hb; have n3_ := Aside0.mk (hbox); have n4_ := wE w hg; have n5_ := wE w hg; have n6_ := Aside0.mk (nL BK819 hg); have n7_ := Aside0.mk (nG BK819 hg); have n8_ := Aside0.mk (nL BK820 hg); have n9_ := Aside0.mk (nG BK820 hg); revert n0_ n1_ n2_ n3_ n4_ n5_ n6_ n7_ n8_ n9_; clear BK819 BK820 HB; intro BK819 BK820 HB BK825 GW825 GE825 NB819_825 NB825_819 NB820_825 NB825_820; clear hb hbox hg; have hnb27 := NB825_819.out; have hnc27 := NB819_825.out; have hnb28 := NB825_820.out; have hnc28 := NB820_825.out; have hcz29_0 := cB BK825 0 (.bool false); have hcz29_1 := cB BK825 1 (.string (⟨#[]⟩ : ByteArray)); have hcz29_2 := cB BK825 2 (.string (⟨#[]⟩ : ByteArray)); have hfz29_0 := blk_frozen BK825.out 0; have hfz29_1 := blk_frozen BK825.out 1; have hfz29_2 := blk_frozen BK825.out 2))
    go_loopg [16] k (fun kq v16 w' => ∃ (x16_1 : Int) (x826000_1 : Bool) (x826001_1 : ByteArray) (x826002_1 : ByteArray), v16 = .int .i64 x16_1 ∧ Aside0 (I1Compound.l0 kq l1 a3 a4 ji9 x16_1 a0_0 a0_1 a0_2 x826000_1 x826001_1 x826002_1 = some (r1, r2, r3, r4)) ∧ Aside0 (kq ≤ k) ∧ Aside0 (w'.heap[gb819]? = some (.cells #[.bool a0_0, .string a0_1, .string a0_2] 29 (0, 0))) ∧ Aside0 (w'.heap[gb820]? = some (.cells #[.bool false, .string (⟨#[]⟩ : ByteArray), .string (⟨#[]⟩ : ByteArray)] 29 (0, 0))) ∧ Aside0 (w'.heap[gb825]? = some (.cells #[.bool x826000_1, .string x826001_1, .string x826002_1] 29 (0, 0))) ∧ Aside0 (Below w.heap.size w w'))
    case atStart => exact ⟨(a2), (t822), (t823), (t824), zq1, H', ⟨Nat.le_refl _⟩, ⟨bC BK819⟩, ⟨bC BK820⟩, ⟨bC BK825⟩, ⟨zH⟩⟩
    case round =>
     clear H'
     (try clear c1); (try clear c2); (try clear p2); (try clear c3); (try clear p6); (try clear c8); (try clear c8b0); (try clear c8b1); (try clear c10); (try clear c10b0); (try clear c10b1); (try clear c11); (try clear c11b0); (try clear c14); (try clear c20); (try clear c21); (try clear c27); (try clear c28); (try clear hcz15_0); (try clear hcz15_1); (try clear hcz15_2); (try clear hcz17_0); (try clear hcz17_1); (try clear hcz17_2); (try clear hcz22_0); (try clear hcz22_1); (try clear hcz22_2); (try clear hcz24_0); (try clear hcz24_1); (try clear hcz24_2); (try clear hcz29_0); (try clear hcz29_1); (try clear hcz29_2); (try clear hfz15_0); (try clear hfz15_1); (try clear hfz15_2); (try clear hfz17_0); (try clear hfz17_1); (try clear hfz17_2); (try clear hfz22_0); (try clear hfz22_1); (try clear hfz22_2); (try clear hfz24_0); (try clear hfz24_1); (try clear hfz24_2); (try clear hfz29_0); (try clear hfz29_1); (try clear hfz29_2)
     obtain ⟨x16_1, x826000_1, x826001_1, x826002_1, rfl, HA, HK1, BK819, BK820, BK825, HB⟩ := hrel
     cases gk with
     | zero => exact absurd HA.out (by simp [I1Compound.l0])
     | succ k1 =>
      have H := HA.out
      clear HA
      simp only [I1Compound.l0] at H
      by_cases c30 : x16_1 < a3
      ·rw [if_pos c30] at H
       have c30b0 := decide_eq_true c30
       clear c30
       obtain ⟨ji31, hji31⟩ : ∃ j_ : Int, (mn (wrap64 (x16_1 + ji9)) a3) = j_ := ⟨_, rfl⟩
       first | rw [hji31] at H | simp only [hji31] at H
       have hji31_ : (if a3 < (wrap64 (x16_1 + ji9)) then a3 else (wrap64 (x16_1 + ji9))) = ji31 := hji31
       replace H := Option.bind_eq_some_iff.mp H
       obtain ⟨⟨t826, t827, t828⟩, A320, H⟩ := H
       (try dsimp only at H)
       have A32 := Aside0.mk A320
       clear A320
       replace H := Option.bind_eq_some_iff.mp H
       obtain ⟨⟨t829, t830, t831⟩, A330, H⟩ := H
       (try dsimp only at H)
       have A33 := Aside0.mk A330
       clear A330
       replace H := Option.bind_eq_some_iff.mp H
       obtain ⟨⟨t832, t833, t834⟩, A340, H⟩ := H
       (try dsimp only at H)
       have A34 := Aside0.mk A340
       clear A340
       have H' := Aside0.mk H
       clear H
       try go_wp2
       have n0_ := Aside0.mk (blk_drew BK819.out)
       have n1_ := Aside0.mk (blk_drew BK820.out)
       have n2_ := Aside0.mk (blk_drew BK825.out)
       have n3_ := Aside0.mk (below_drew1 HB.out)
       revert n0_ n1_ n2_ n3_
       clear BK819 BK820 BK825 HB
       intro BK819 BK820 BK825 HB
       refine start_ (n := 14) (S := fun w' => w'.cell? ⟨gb825, 0, none⟩ = some (.bool x826000_1) ∧ w'.cell? ⟨gb825, 1, none⟩ = some (.string x826001_1) ∧ w'.cell? ⟨gb825, 2, none⟩ = some (.string x826002_1)) (ds := [13]) #[false, false, false, false, false, false, false, false, false, false, false, false, false, false] (by kernel_rfl) rfl rfl ⟨cA BK825 0, cA BK825 1, cA BK825 2⟩ (fun hHeld => ?_); refine with_tabW I1Compound.tab11 I1Compound.bits11 (fun HT_ HW_ => ?_)
       generalize wr.drew = w35 at BK819 BK820 BK825 HB hHeld ⊢
       refine pureA 2 52 (lB 14 4) rfl rfl ?_
       refine pureA 3 53 (lB 14 12) rfl rfl ?_
       refine pureA 4 54 (lB 14 28) rfl rfl ?_
       refine pureA 5 55 (lB 14 60) rfl rfl ?_
       refine pureA 6 56 (lB 14 124) rfl rfl ?_
       refine pureA 7 57 (lB 14 252) rfl rfl ?_
       refine pureA 8 58 (lB 14 508) rfl rfl ?_
       refine pureA 9 59 (lB 14 1020) rfl rfl ?_
       refine takeA 0 50 (lB 14 1021) rfl rfl hHeld ?_
       refine takeA 1 51 (lB 14 1023) rfl rfl hHeld ?_
       refine one_ (i := 10) (N := some 60) (lB 14 2047) rfl rfl (one_of HT_.out (by kernel_rfl)) (by decide) (fun K hK => ?_)
       refine goes_ Tryd.func34 (by kernel_rfl) rfl #[.slice A1 l1.length c1, .int .i64 x16_1, .int .i64 ji31, .int .i64 a4] (by rfl) rfl rfl (by (try simp only [List.map_toArray, List.map_cons, List.map_nil]); first | done | (simp only [hji31]; rfl) | rfl | (simp only [List.length_drop, List.length_take]; rfl)) ?_
       with_reducible refine (I1simple.calls k1 _ _ l1 x16_1 ji31 a4 t826 t827 t828 _ ?side1 ?side2 A32.out).mono ?_
       (case side1 => repeat (first | exact (Kd.C_below HR1.out HB.out) | (with_reducible refine Kd.C_alloc ?_ _) | (with_reducible refine Kd.C_drewN ?_ _) | (with_reducible refine Kd.C_drew ?_)))
       (case side2 => exact HC1.out)
       rintro e w36 ⟨rfl, hb⟩
       refine ⟨_, rfl, ?_⟩
       have n0_ := bB BK819 hb
       have n1_ := bB BK820 hb
       have n2_ := bB BK825 hb
       have n3_ := sB hb
       revert n0_ n1_ n2_ n3_
       clear BK819 BK820 BK825 HB
       intro BK819 BK820 BK825 HB
       (try clear hb); (try clear hb2); (try clear hk); (try clear hi)
       refine hK.out _ _ ⟨cA BK825 0, cA BK825 1, cA BK825 2⟩ (fun hHeld => ?_)
       clear hK K
       refine normA (N := 60) ?_
       refine one_ (i := 11) (N := some 61) (lB 14 4095) rfl rfl (one_of HT_.out (by kernel_rfl)) (by decide) (fun K hK => ?_)
       refine goes_ Tryd.func19 (by kernel_rfl) rfl #[.agg #[.bool x826000_1, .string x826001_1, .string x826002_1], .agg #[.bool t826, .string t827, .string t828]] (by rfl) rfl rfl zq2 ?_
       with_reducible refine (Q1Multiply.calls k1 x826000_1 x826001_1 x826002_1 t826 t827 t828 t829 t830 t831 _ A33.out).mono ?_
       rintro e w37 ⟨rfl, hb⟩
       refine ⟨_, rfl, ?_⟩
       have n0_ := bB BK819 hb
       have n1_ := bB BK820 hb
       have n2_ := bB BK825 hb
       have n3_ := sB hb
       revert n0_ n1_ n2_ n3_
       clear BK819 BK820 BK825 HB
       intro BK819 BK820 BK825 HB
       (try clear hb); (try clear hb2); (try clear hk); (try clear hi)
       refine hK.out _ _ ⟨cA BK825 0, cA BK825 1, cA BK825 2⟩ (fun hHeld => ?_)
       clear hK K
       refine normA (N := 61) ?_
       refine one_ (i := 12) (N := some 62) (lB 14 8191) rfl rfl (one_of HT_.out (by kernel_rfl)) (by decide) (fun K hK => ?_)
       refine goes_ Tryd.func20 (by kernel_rfl) rfl #[.agg #[.bool x826000_1, .string x826001_1, .string x826002_1], .agg #[.bool t829, .string t830, .string t831]] (by rfl) rfl rfl zq2 ?_
       with_reducible refine (Q1Add.calls k1 x826000_1 x826001_1 x826002_1 t829 t830 t831 t832 t833 t834 _ A34.out).mono ?_
       rintro e w38 ⟨rfl, hb⟩
       refine ⟨_, rfl, ?_⟩
       have n0_ := bB BK819 hb
       have n1_ := bB BK820 hb
       have n2_ := bB BK825 hb
       have n3_ := sB hb
       revert n0_ n1_ n2_ n3_
       clear BK819 BK820 BK825 HB
       intro BK819 BK820 BK825 HB
       (try clear hb); (try clear hb2); (try clear hk); (try clear hi)
       refine hK.out _ _ ⟨cA BK825 0, cA BK825 1, cA BK825 2⟩ (fun hHeld => ?_)
       clear hK K
       refine normA (N := 62) ?_
       refine last_ (i := 13) (N := none) (lB 14 16383) rfl rfl (one_of HT_.out (by kernel_rfl)) (by decide) (fun K hK => ?_)
       have hs39 := cB BK825 0 (.bool x826000_1)
       have hfs39 := blk_frozen BK825.out 0
       have hns39_0 := NB819_825.out
       have hns39_1 := NB820_825.out
       have hms39_0 := NB825_819.out
       have hms39_1 := NB825_820.out
       have hs40 := cB BK825 1 (.string x826001_1)
       have hfs40 := blk_frozen BK825.out 1
       have hns40_0 := NB819_825.out
       have hns40_1 := NB820_825.out
       have hms40_0 := NB825_819.out
       have hms40_1 := NB825_820.out
       have hs41 := cB BK825 2 (.string x826002_1)
       have hfs41 := blk_frozen BK825.out 2
       have hns41_0 := NB819_825.out
       have hns41_1 := NB820_825.out
       have hms41_0 := NB825_819.out
       have hms41_1 := NB825_820.out
       refine skip_ (w1 := ?_) (by rfl) rfl ?_ ?_
       rotate_left
       ·go_simp
        rfl
       refine hK.out _ _ ?_
       clear hK K
       refine done_ (done_of HT_.out (by kernel_rfl)) ?_
       try go_wp2
       go_roundg k1
       case measure => have := HK1.out; omega
       case rel => exact ⟨(wrap64 (x16_1 + ji9)), (t832), (t833), (t834), (by first | rfl | (simp; done) | (simp only [← hji9] <;> (first | rfl | simp)) | (simp [*]; done)), H', ⟨by have := HK1.out; omega⟩, ⟨bC BK819⟩, ⟨bC BK820⟩, ⟨bC BK825⟩, ⟨zH⟩⟩
      ·rw [if_neg c30] at H
       have c30b0 := decide_eq_false c30
       clear c30
       replace H := Option.bind_eq_some_iff.mp H
       obtain ⟨⟨t835, t836, t837⟩, A420, H⟩ := H
       (try dsimp only at H)
       have A42 := Aside0.mk A420
       clear A420
       simp only [Option.some.injEq, Prod.mk.injEq] at H
       obtain ⟨rfl, rfl, rfl, rfl⟩ := H
       have hnb43 := NB825_819.out
       have hnc43 := NB819_825.out
       have hnb44 := NB825_820.out
       have hnc44 := NB820_825.out
       have hcz45_0 := cB BK825 0 (.bool x826000_1)
       have hcz45_1 := cB BK825 1 (.string x826001_1)
       have hcz45_2 := cB BK825 2 (.string x826002_1)
       have hfz45_0 := blk_frozen BK825.out 0
       have hfz45_1 := blk_frozen BK825.out 1
       have hfz45_2 := blk_frozen BK825.out 2
       have hnb46 := NB819_820.out
       have hnc46 := NB820_819.out
       have hcz47_0 := cB BK819 0 (.bool a0_0)
       have hcz47_1 := cB BK819 1 (.string a0_1)
       have hcz47_2 := cB BK819 2 (.string a0_2)
       have hfz47_0 := blk_frozen BK819.out 0
       have hfz47_1 := blk_frozen BK819.out 1
       have hfz47_2 := blk_frozen BK819.out 2
       go_wp2_with (first | (refine goesLA 65 Tryd.func46 #[.agg #[.bool x826000_1, .string x826001_1, .string x826002_1], .agg #[.bool a0_0, .string a0_1, .string a0_2]] ?_; (with_reducible refine (Q1Subtract.calls k1 x826000_1 x826001_1 x826002_1 a0_0 a0_1 a0_2 t835 t836 t837 _ A42.out).mono ?_); rintro e w48 ⟨rfl, hb⟩; refine ⟨_, rfl, ?_⟩; have n0_ := bB BK819 hb; have n1_ := bB BK820 hb; have n2_ := bB BK825 hb; have n3_ := sB hb; revert n0_ n1_ n2_ n3_; clear BK819 BK820 BK825 HB; intro BK819 BK820 BK825 HB; (try clear hb); (try clear hb2); (try clear hk); (try clear hi); have hcz49_0 := cB BK820 0 (.bool false); have hcz49_1 := cB BK820 1 (.string (⟨#[]⟩ : ByteArray)); have hcz49_2 := cB BK820 2 (.string (⟨#[]⟩ : ByteArray)); have hfz49_0 := blk_frozen BK820.out 0; have hfz49_1 := blk_frozen BK820.out 1; have hfz49_2 := blk_frozen BK820.out 2))
       refine bodyPost_ret (results_ct rfl _ _ gb820 29 #[.bool t835, .string t836, .string t837] (0, 0) _ rfl (bC BK820) Tryd.underlying29 rfl (by kernel_rfl)) rfl ?_
       exact ⟨by first | rfl | (simp [errW_none, errW_some] <;> rfl) | (simp only [← hji9]; first | rfl | (simp [errW_none, errW_some] <;> rfl)) | (simp [*, errW_none, errW_some] <;> rfl), zH⟩
 ·rw [if_neg c8] at H
  have c8b0 := beq_eq_false_iff_ne.mpr c8
  have c8b1 := bne_iff_ne.mpr c8
  simp only [Option.some.injEq, Prod.mk.injEq] at H
  obtain ⟨rfl, rfl, rfl, rfl⟩ := H
  go_enter Tryd.func21, Tryd.ntmps21
  go_wp2_with (first | (refine box_evA 6 #[.bool a0_0, .string a0_1, .string a0_2] 29 ?_; intro gb819 hg w50 hbox hb; have n0_ := sB hb; have n1_ := Aside0.mk (hbox); have n2_ := wE w hg; have n3_ := wE w hg; revert n0_ n1_ n2_ n3_; clear HB; intro HB BK819 GW819 GE819; clear hb hbox hg) | (refine box_evA 12 #[.bool false, .string (⟨#[]⟩ : ByteArray), .string (⟨#[]⟩ : ByteArray)] 29 ?_; intro gb820 hg w51 hbox hb; have n0_ := bB BK819 hb; have n1_ := sB hb; have n2_ := Aside0.mk (hbox); have n3_ := wE w hg; have n4_ := wE w hg; have n5_ := Aside0.mk (nL BK819 hg); have n6_ := Aside0.mk (nG BK819 hg); revert n0_ n1_ n2_ n3_ n4_ n5_ n6_; clear BK819 HB; intro BK819 HB BK820 GW820 GE820 NB819_820 NB820_819; clear hb hbox hg; have hnb52 := NB819_820.out; have hnc52 := NB820_819.out; have hcz53_0 := cB BK819 0 (.bool a0_0); have hcz53_1 := cB BK819 1 (.string a0_1); have hcz53_2 := cB BK819 2 (.string a0_2); have hfz53_0 := blk_frozen BK819.out 0; have hfz53_1 := blk_frozen BK819.out 1; have hfz53_2 := blk_frozen BK819.out 2) | (refine goesLA 23 Tryd.func33 #[.agg #[.bool a0_0, .string a0_1, .string a0_2], .slice A1 l1.length c1, .int .i64 a2, .int .i64 a3, .int .i64 a4, .int .i64 a5] ?_; (with_reducible refine (I1check.calls k a0_0 a0_1 a0_2 _ _ l1 a2 a3 a4 a5 t821 _ ?side1 ?side2 A7.out).mono ?_); (case side1 => repeat (first | exact (Kd.C_below HR1.out HB.out) | (with_reducible refine Kd.C_alloc ?_ _) | (with_reducible refine Kd.C_drewN ?_ _) | (with_reducible refine Kd.C_drew ?_))); (case side2 => exact HC1.out); rintro e w54 ⟨rfl, hb⟩; refine ⟨_, rfl, ?_⟩; have n0_ := bB BK819 hb; have n1_ := bB BK820 hb; have n2_ := sB hb; revert n0_ n1_ n2_; clear BK819 BK820 HB; intro BK819 BK820 HB; (try clear hb); (try clear hb2); (try clear hk); (try clear hi); have hcz55_0 := cB BK820 0 (.bool false); have hcz55_1 := cB BK820 1 (.string (⟨#[]⟩ : ByteArray)); have hcz55_2 := cB BK820 2 (.string (⟨#[]⟩ : ByteArray)); have hfz55_0 := blk_frozen BK820.out 0; have hfz55_1 := blk_frozen BK820.out 1; have hfz55_2 := blk_frozen BK820.out 2))
  refine bodyPost_ret (results_ct rfl _ _ gb820 29 #[.bool false, .string (⟨#[]⟩ : ByteArray), .string (⟨#[]⟩ : ByteArray)] (0, 0) _ rfl (bC BK820) Tryd.underlying29 rfl (by kernel_rfl)) rfl ?_
  exact ⟨zE, zH⟩
end Go.Proofs.YtggfilmdfpmbmaaDoor.QN
end
section
namespace Go.Proofs.YtggfilmdfpmbmaaDoor.QN
open Go.RowKit Go.Proofs.YtggfilmdfpmbmaaDoorW.PrintWords Go.Proofs.YtggfilmdfpmbmaaDoorW.PrintLast Go.Proofs.YtggfilmdfpmbmaaDoorW.PrintMore
attribute [local go_sem] max2_int min2_int max_two min_two max_three min_three max_four min_four   -- for this text's walks alone
set_option linter.unusedVariables false
set_option linter.unusedSimpArgs false
attribute [local go_sem high] eqA29
def R1IsDay.f (a0 : Int) : Option (Bool) := if a0 ≥ 0 then (some (decide (a0 ≤ 1048576))) else (some false)
set_option maxHeartbeats 8000000 in
set_option maxRecDepth 100000 in
theorem R1IsDay.calls (a0 : Int) (r : Bool) (w : World) (h : R1IsDay.f a0 = some r) :
 Calls Tryd.prog 31 #[.int .i64 a0] w fun e w' => e = .returned (.bool r) ∧ Drawn0 w w' := by
 have H : (if a0 ≥ 0 then (some (decide (a0 ≤ 1048576))) else (some false)) = some r := h
 clear h
 by_cases c2 : a0 ≥ 0
 ·rw [if_pos c2] at H
  have c2b0 := decide_eq_true c2
  clear c2
  obtain rfl := Option.some.inj H
  go_enter Tryd.func31, Tryd.ntmps31
  go_wp2
  go_ret
  exact ⟨by first | rfl | (simp; done) | (simp [*]; done), by repeat (first | exact Drawn0.refl _ | apply Drawn0.step)⟩
 ·rw [if_neg c2] at H
  have c2b0 := decide_eq_false c2
  clear c2
  obtain rfl := Option.some.inj H
  go_enter Tryd.func31, Tryd.ntmps31
  go_wp2
  go_ret
  exact ⟨by first | rfl | (simp; done) | (simp [*]; done), by repeat (first | exact Drawn0.refl _ | apply Drawn0.step)⟩
mutual
def R1CheckSteps.l0 : Nat → List (S54) → Int → Option (Int)
 | 0, _, _ => none
 | k + 1, x0, x3 => if x3 < (x0.length : Int) then (if 0 ≤ x3 then ((R1IsDay.f ((rd_T54 x0 x3).f0)).bind fun t848 => (if t848 = true then (if x3 > 0 then (if 0 ≤ (wrap64 (x3 - 1)) then (if (wrap64 (x3 - 1)) < (x0.length : Int) then (R1CheckSteps.j1 k x0 x3 (decide (((rd_T54 x0 x3).f0) ≤ ((rd_T54 x0 (wrap64 (x3 - 1))).f0)))) else (none)) else (none)) else (R1CheckSteps.j1 k x0 x3 false)) else (some 1))) else (none)) else (some 0)
def R1CheckSteps.j1 : Nat → List (S54) → Int → Bool → Option (Int)
 | 0, _, _, _ => none
 | k + 1, x0, x3, x21 => if x21 = true then (some 15) else (if 0 ≤ x3 then (if x3 < (x0.length : Int) then ((R1Sign.f k ((rd_T54 x0 x3).f1.f0) ((rd_T54 x0 x3).f1.f1) ((rd_T54 x0 x3).f1.f2)).bind fun t852 => (if t852 < 0 then (some 7) else (R1CheckSteps.l0 k x0 (wrap64 (x3 + 1))))) else (none)) else (none))
end
def R1CheckSteps.f (k : Nat) (l0 : List (S54)) : Option (Int) := if (l0.length : Int) > 64 then (some 2) else (R1CheckSteps.l0 k l0 0)
set_option maxHeartbeats 8000000 in
set_option maxRecDepth 100000 in
theorem R1CheckSteps.calls (k : Nat) (A0 : Option Addr) (c0 : Nat) (l0 : List (S54)) (r : Int) (w : World) (hr0 : Kd.C k54 w A0 l0.length l0) (hc0 : l0.length ≤ c0) (h : R1CheckSteps.f k l0 = some r) :
 Calls Tryd.prog 13 #[.slice A0 l0.length c0] w fun e w' => e = .returned (.int .i64 r) ∧ Below w.heap.size w w' := by
 have hu29 := Tryd.underlying29
 have HR0 := Aside0.mk hr0
 have HC0 := Aside0.mk hc0
 clear hr0 hc0
 have HB := Aside0.mk (Below.refl w.heap.size w)
 have H : (if (l0.length : Int) > 64 then (some 2) else (R1CheckSteps.l0 k l0 0)) = some r := h
 clear h
 by_cases c2 : (l0.length : Int) > 64
 ·rw [if_pos c2] at H
  have c2b0 := decide_eq_true c2
  have c2b1 : decide (64 < l0.length) = true := decide_eq_true (by omega)
  clear c2
  obtain rfl := Option.some.inj H
  go_enter Tryd.func13, Tryd.ntmps13
  go_wp2
  repeat (go_quiet (fail); try go_wp2)
  go_ret
  exact ⟨zE, zH⟩
 ·rw [if_neg c2] at H
  have c2b0 := decide_eq_false c2
  have c2b1 : decide (64 < l0.length) = false := decide_eq_false (by omega)
  clear c2
  have H' := Aside0.mk H
  clear H
  go_enter Tryd.func13, Tryd.ntmps13
  go_wp2
  repeat (go_quiet (fail); try go_wp2)
  go_loopg [3] k (fun kq v3 w' => ∃ (x3_1 : Int), v3 = .int .i64 x3_1 ∧ Aside0 (R1CheckSteps.l0 kq l0 x3_1 = some r) ∧ Aside0 (kq ≤ k) ∧ Aside0 (Below w.heap.size w w'))
  case atStart => exact ⟨(0), zq1, H', ⟨Nat.le_refl _⟩, ⟨zH⟩⟩
  case round =>
   clear H'
   (try clear c1); (try clear c2); (try clear c2b0); (try clear c2b1); (try clear p2)
   obtain ⟨x3_1, rfl, HA, HK1, HB⟩ := hrel
   cases gk with
   | zero => exact absurd HA.out (by simp [R1CheckSteps.l0])
   | succ k1 =>
    have H := HA.out
    clear HA
    simp only [R1CheckSteps.l0] at H
    by_cases c3 : x3_1 < (l0.length : Int)
    ·rw [if_pos c3] at H
     have c3b0 := decide_eq_true c3
     clear c3
     replace H := of_ite H
     obtain ⟨c4, H⟩ := H
     have c4b0 := decide_eq_true c4
     clear c4
     replace H := Option.bind_eq_some_iff.mp H
     obtain ⟨t848, A50, H⟩ := H
     (try dsimp only at H)
     have A5 := Aside0.mk A50
     clear A50
     by_cases c6 : t848 = true
     ·subst c6
      have H1 : (if x3_1 > 0 then (if 0 ≤ (wrap64 (x3_1 - 1)) then (if (wrap64 (x3_1 - 1)) < (l0.length : Int) then (R1CheckSteps.j1 k1 l0 x3_1 (decide (((rd_T54 l0 x3_1).f0) ≤ ((rd_T54 l0 (wrap64 (x3_1 - 1))).f0)))) else (none)) else (none)) else (R1CheckSteps.j1 k1 l0 x3_1 false)) = some r := by rw [if_pos rfl] at H; exact H
      clear H
      have H := H1
      clear H1
      have HC7 := Aside0.mk H
      clear H
      have p847 : 0 ≤ (x3_1 : Int) := of_decide_eq_true zq0
      have q847 : x3_1 < (l0.length : Int) := of_decide_eq_true zq0
      obtain ⟨ad847, e847, hx847_0, hx847_1, hx847_2, hx847_3⟩ := at_T54 HR0.out x3_1 p847 q847
      cases e847
      (try replace hx847_0 := (HB.out.cell (World.block_lt_of_cell? w _ hx847_0)).trans hx847_0)
      (try replace hx847_1 := (HB.out.cell (World.block_lt_of_cell? w _ hx847_1)).trans hx847_1)
      (try replace hx847_2 := (HB.out.cell (World.block_lt_of_cell? w _ hx847_2)).trans hx847_2)
      (try replace hx847_3 := (HB.out.cell (World.block_lt_of_cell? w _ hx847_3)).trans hx847_3)
      replace p847 := eq_true p847
      replace q847 := eq_true q847
      go_upto_region 8 with (first | (go_at_call 31; (with_reducible refine (R1IsDay.calls ((rd_T54 l0 x3_1).f0) true _ A5.out).mono ?_); rintro e w' ⟨rfl, ⟨nd, rfl⟩⟩; (try first | exact ⟨rfl, _, World.drewN_drewN _ _ _⟩ | exact ⟨rfl, _, Eq.trans (World.drewN_drewN _ _ _) (congrArg (World.drewN _) (Nat.add_assoc _ _ _))⟩)))
      repeat (go_quiet (first | (go_at_call 31; (with_reducible refine (R1IsDay.calls ((rd_T54 l0 x3_1).f0) true _ A5.out).mono ?_); rintro e w' ⟨rfl, ⟨nd, rfl⟩⟩; (try first | exact ⟨rfl, _, World.drewN_drewN _ _ _⟩ | exact ⟨rfl, _, Eq.trans (World.drewN_drewN _ _ _) (congrArg (World.drewN _) (Nat.add_assoc _ _ _))⟩))); go_upto_region 8 with (first | (go_at_call 31; (with_reducible refine (R1IsDay.calls ((rd_T54 l0 x3_1).f0) true _ A5.out).mono ?_); rintro e w' ⟨rfl, ⟨nd, rfl⟩⟩; (try first | exact ⟨rfl, _, World.drewN_drewN _ _ _⟩ | exact ⟨rfl, _, Eq.trans (World.drewN_drewN _ _ _) (congrArg (World.drewN _) (Nat.add_assoc _ _ _))⟩))))
      (try simp only [Act.put, List.setIfInBounds_toArray, List.set_cons_zero, List.set_cons_succ])
      go_cut [21] (fun v21 wc => ∃ (kq : Nat) (x21_6 : Bool), v21 = .bool x21_6 ∧ Aside0 (R1CheckSteps.j1 kq l0 x3_1 x21_6 = some r) ∧ Aside0 (kq ≤ k1) ∧ Aside0 (Below w.heap.size w wc))
      case first =>
       have H := HC7.out
       clear HC7
       by_cases c8 : x3_1 > 0
       ·rw [if_pos c8] at H
        have c8b0 := decide_eq_true c8
        clear c8
        (first | rw [c8b0] | (simp only [i64_w, i32_w]; rw [c8b0]) | rw [c8b1] | skip)
        obtain ⟨ji9, hji9⟩ : ∃ j_ : Int, (wrap64 (x3_1 - 1)) = j_ := ⟨_, rfl⟩
        first | rw [hji9] at H | simp only [hji9] at H
        have hji9w : (IntKind.i64.wrap (x3_1 - 1)) = ji9 := (i64_w _).trans hji9
        replace H := of_ite H
        obtain ⟨c10, H⟩ := H
        have c10b0 := decide_eq_true c10
        clear c10
        replace H := of_ite H
        obtain ⟨c11, H⟩ := H
        have c11b0 := decide_eq_true c11
        clear c11
        have H' := Aside0.mk H
        clear H
        have p849 : 0 ≤ (x3_1 : Int) := of_decide_eq_true zq0
        have q849 : x3_1 < (l0.length : Int) := of_decide_eq_true zq0
        obtain ⟨ad849, e849, hx849_0, hx849_1, hx849_2, hx849_3⟩ := at_T54 HR0.out x3_1 p849 q849
        obtain rfl : ad847 = ad849 := (by injection e849)
        (try replace hx849_0 := (HB.out.cell (World.block_lt_of_cell? w _ hx849_0)).trans hx849_0)
        (try replace hx849_1 := (HB.out.cell (World.block_lt_of_cell? w _ hx849_1)).trans hx849_1)
        (try replace hx849_2 := (HB.out.cell (World.block_lt_of_cell? w _ hx849_2)).trans hx849_2)
        (try replace hx849_3 := (HB.out.cell (World.block_lt_of_cell? w _ hx849_3)).trans hx849_3)
        replace p849 := eq_true p849
        replace q849 := eq_true q849
        have p850 : 0 ≤ ((ji9) : Int) := of_decide_eq_true zq0
        have q850 : (ji9) < (l0.length : Int) := of_decide_eq_true zq0
        obtain ⟨ad850, e850, hx850_0, hx850_1, hx850_2, hx850_3⟩ := at_T54 HR0.out (ji9) p850 q850
        obtain rfl : ad847 = ad850 := (by injection e850)
        (try replace hx850_0 := (HB.out.cell (World.block_lt_of_cell? w _ hx850_0)).trans hx850_0)
        (try replace hx850_1 := (HB.out.cell (World.block_lt_of_cell? w _ hx850_1)).trans hx850_1)
        (try replace hx850_2 := (HB.out.cell (World.block_lt_of_cell? w _ hx850_2)).trans hx850_2)
        (try replace hx850_3 := (HB.out.cell (World.block_lt_of_cell? w _ hx850_3)).trans hx850_3)
        replace p850 := eq_true p850
        replace q850 := eq_true q850
        go_wp2
        repeat (go_quiet (fail); try go_wp2)
        go_meet
        case rel => exact ⟨_, (decide (((rd_T54 l0 x3_1).f0) ≤ ((rd_T54 l0 (ji9)).f0))), (by first | rfl | (simp; done) | (simp only [← hji9] <;> (first | rfl | simp)) | (simp [*]; done)), H', ⟨by have := HK1.out; first | omega | exact Nat.le_refl _⟩, ⟨zH⟩⟩
       ·rw [if_neg c8] at H
        have c8b0 := decide_eq_false c8
        clear c8
        (first | rw [c8b0] | (simp only [i64_w, i32_w]; rw [c8b0]) | rw [c8b1] | skip)
        have H' := Aside0.mk H
        clear H
        go_wp2
        repeat (go_quiet (fail); try go_wp2)
        go_meet
        case rel => exact ⟨_, (false), zq1, H', ⟨by have := HK1.out; first | omega | exact Nat.le_refl _⟩, ⟨zH⟩⟩
      case rest =>
       clear HC7
       (try clear c1); (try clear c2); (try clear c2b0); (try clear c2b1); (try clear p2); (try clear c3); (try clear c3b0); (try clear c4); (try clear c4b0); (try clear c6); (try clear p6); (try clear c8); (try clear c8b0); (try clear c8b1); (try clear p8); (try clear q8); (try clear hx8); (try clear c10); (try clear c10b0); (try clear c11); (try clear c11b0); (try clear hx847_0); (try clear hx847_1); (try clear hx847_2); (try clear hx847_3); (try clear hx849_0); (try clear hx849_1); (try clear hx849_2); (try clear hx849_3); (try clear hx850_0); (try clear hx850_1); (try clear hx850_2); (try clear hx850_3); (try clear p2); (try clear p847); (try clear p849); (try clear p850); (try clear q847); (try clear q849); (try clear q850)
       obtain ⟨kq, x21_6, rfl, HA, HJ6, HB⟩ := hcut
       cases kq with
       | zero => exact absurd HA.out (by simp [R1CheckSteps.j1])
       | succ kj6 =>
        have H := HA.out
        clear HA
        simp only [R1CheckSteps.j1] at H
        by_cases c12 : x21_6 = true
        ·subst c12
         have H1 : (some 15) = some r := by rw [if_pos rfl] at H; exact H
         clear H
         have H := H1
         clear H1
         obtain rfl := Option.some.inj H
         go_wp2
         repeat (go_quiet (fail); try go_wp2)
         go_ret
         exact ⟨zE, zH⟩
        ·replace c12 := Bool.eq_false_iff.mpr c12
         subst c12
         have H1 : (if 0 ≤ x3_1 then (if x3_1 < (l0.length : Int) then ((R1Sign.f kj6 ((rd_T54 l0 x3_1).f1.f0) ((rd_T54 l0 x3_1).f1.f1) ((rd_T54 l0 x3_1).f1.f2)).bind fun t852 => (if t852 < 0 then (some 7) else (R1CheckSteps.l0 kj6 l0 (wrap64 (x3_1 + 1))))) else (none)) else (none)) = some r := by rw [if_neg (show ¬ (false = true) by decide)] at H; exact H
         clear H
         have H := H1
         clear H1
         replace H := of_ite H
         obtain ⟨c13, H⟩ := H
         have c13b0 := decide_eq_true c13
         clear c13
         replace H := of_ite H
         obtain ⟨c14, H⟩ := H
         have c14b0 := decide_eq_true c14
         clear c14
         replace H := Option.bind_eq_some_iff.mp H
         obtain ⟨t852, A150, H⟩ := H
         (try dsimp only at H)
         have A15 := Aside0.mk A150
         clear A150
         by_cases c16 : t852 < 0
         ·rw [if_pos c16] at H
          have c16b0 := decide_eq_true c16
          clear c16
          obtain rfl := Option.some.inj H
          have p851 : 0 ≤ (x3_1 : Int) := of_decide_eq_true zq0
          have q851 : x3_1 < (l0.length : Int) := of_decide_eq_true zq0
          obtain ⟨ad851, e851, hx851_0, hx851_1, hx851_2, hx851_3⟩ := at_T54 HR0.out x3_1 p851 q851
          obtain rfl : ad847 = ad851 := (by injection e851)
          (try replace hx851_0 := (HB.out.cell (World.block_lt_of_cell? w _ hx851_0)).trans hx851_0)
          (try replace hx851_1 := (HB.out.cell (World.block_lt_of_cell? w _ hx851_1)).trans hx851_1)
          (try replace hx851_2 := (HB.out.cell (World.block_lt_of_cell? w _ hx851_2)).trans hx851_2)
          (try replace hx851_3 := (HB.out.cell (World.block_lt_of_cell? w _ hx851_3)).trans hx851_3)
          replace p851 := eq_true p851
          replace q851 := eq_true q851
          go_wp2_with (first | (go_at_call 32; (with_reducible refine (R1Sign.calls kj6 ((rd_T54 l0 x3_1).f1.f0) ((rd_T54 l0 x3_1).f1.f1) ((rd_T54 l0 x3_1).f1.f2) t852 _ A15.out).mono ?_); rintro e w17 ⟨rfl, hb⟩; have n0_ := sB hb; revert n0_; clear HB; intro HB; (try clear hb); (try clear hb2); (try clear hk); (try clear hi)))
          repeat (go_quiet (first | (go_at_call 32; (with_reducible refine (R1Sign.calls kj6 ((rd_T54 l0 x3_1).f1.f0) ((rd_T54 l0 x3_1).f1.f1) ((rd_T54 l0 x3_1).f1.f2) t852 _ A15.out).mono ?_); rintro e w17 ⟨rfl, hb⟩; have n0_ := sB hb; revert n0_; clear HB; intro HB; (try clear hb); (try clear hb2); (try clear hk); (try clear hi))); try go_wp2_with (first | (go_at_call 32; (with_reducible refine (R1Sign.calls kj6 ((rd_T54 l0 x3_1).f1.f0) ((rd_T54 l0 x3_1).f1.f1) ((rd_T54 l0 x3_1).f1.f2) t852 _ A15.out).mono ?_); rintro e w17 ⟨rfl, hb⟩; have n0_ := sB hb; revert n0_; clear HB; intro HB; (try clear hb); (try clear hb2); (try clear hk); (try clear hi))))
          go_ret
          exact ⟨zE, zH⟩
         ·rw [if_neg c16] at H
          have c16b0 := decide_eq_false c16
          clear c16
          have H' := Aside0.mk H
          clear H
          have p851 : 0 ≤ (x3_1 : Int) := of_decide_eq_true zq0
          have q851 : x3_1 < (l0.length : Int) := of_decide_eq_true zq0
          obtain ⟨ad851, e851, hx851_0, hx851_1, hx851_2, hx851_3⟩ := at_T54 HR0.out x3_1 p851 q851
          obtain rfl : ad847 = ad851 := (by injection e851)
          (try replace hx851_0 := (HB.out.cell (World.block_lt_of_cell? w _ hx851_0)).trans hx851_0)
          (try replace hx851_1 := (HB.out.cell (World.block_lt_of_cell? w _ hx851_1)).trans hx851_1)
          (try replace hx851_2 := (HB.out.cell (World.block_lt_of_cell? w _ hx851_2)).trans hx851_2)
          (try replace hx851_3 := (HB.out.cell (World.block_lt_of_cell? w _ hx851_3)).trans hx851_3)
          replace p851 := eq_true p851
          replace q851 := eq_true q851
          go_wp2_with (first | (go_at_call 32; (with_reducible refine (R1Sign.calls kj6 ((rd_T54 l0 x3_1).f1.f0) ((rd_T54 l0 x3_1).f1.f1) ((rd_T54 l0 x3_1).f1.f2) t852 _ A15.out).mono ?_); rintro e w18 ⟨rfl, hb⟩; have n0_ := sB hb; revert n0_; clear HB; intro HB; (try clear hb); (try clear hb2); (try clear hk); (try clear hi)))
          repeat (go_quiet (first | (go_at_call 32; (with_reducible refine (R1Sign.calls kj6 ((rd_T54 l0 x3_1).f1.f0) ((rd_T54 l0 x3_1).f1.f1) ((rd_T54 l0 x3_1).f1.f2) t852 _ A15.out).mono ?_); rintro e w18 ⟨rfl, hb⟩; have n0_ := sB hb; revert n0_; clear HB; intro HB; (try clear hb); (try clear hb2); (try clear hk); (try clear hi))); try go_wp2_with (first | (go_at_call 32; (with_reducible refine (R1Sign.calls kj6 ((rd_T54 l0 x3_1).f1.f0) ((rd_T54 l0 x3_1).f1.f1) ((rd_T54 l0 x3_1).f1.f2) t852 _ A15.out).mono ?_); rintro e w18 ⟨rfl, hb⟩; have n0_ := sB hb; revert n0_; clear HB; intro HB; (try clear hb); (try clear hb2); (try clear hk); (try clear hi))))
          go_roundg kj6
          case measure => have := HK1.out; have := HJ6.out; omega
          case rel => exact ⟨(wrap64 (x3_1 + 1)), zq1, H', ⟨by have := HK1.out; have := HJ6.out; omega⟩, ⟨zH⟩⟩
     ·replace c6 := Bool.eq_false_iff.mpr c6
      subst c6
      have H1 : (some 1) = some r := by rw [if_neg (show ¬ (false = true) by decide)] at H; exact H
      clear H
      have H := H1
      clear H1
      obtain rfl := Option.some.inj H
      have p847 : 0 ≤ (x3_1 : Int) := of_decide_eq_true zq0
      have q847 : x3_1 < (l0.length : Int) := of_decide_eq_true zq0
      obtain ⟨ad847, e847, hx847_0, hx847_1, hx847_2, hx847_3⟩ := at_T54 HR0.out x3_1 p847 q847
      cases e847
      (try replace hx847_0 := (HB.out.cell (World.block_lt_of_cell? w _ hx847_0)).trans hx847_0)
      (try replace hx847_1 := (HB.out.cell (World.block_lt_of_cell? w _ hx847_1)).trans hx847_1)
      (try replace hx847_2 := (HB.out.cell (World.block_lt_of_cell? w _ hx847_2)).trans hx847_2)
      (try replace hx847_3 := (HB.out.cell (World.block_lt_of_cell? w _ hx847_3)).trans hx847_3)
      replace p847 := eq_true p847
      replace q847 := eq_true q847
      go_wp2_with (first | (go_at_call 31; (with_reducible refine (R1IsDay.calls ((rd_T54 l0 x3_1).f0) false _ A5.out).mono ?_); rintro e w' ⟨rfl, ⟨nd, rfl⟩⟩; (try first | exact ⟨rfl, _, World.drewN_drewN _ _ _⟩ | exact ⟨rfl, _, Eq.trans (World.drewN_drewN _ _ _) (congrArg (World.drewN _) (Nat.add_assoc _ _ _))⟩)))
      repeat (go_quiet (first | (go_at_call 31; (with_reducible refine (R1IsDay.calls ((rd_T54 l0 x3_1).f0) false _ A5.out).mono ?_); rintro e w' ⟨rfl, ⟨nd, rfl⟩⟩; (try first | exact ⟨rfl, _, World.drewN_drewN _ _ _⟩ | exact ⟨rfl, _, Eq.trans (World.drewN_drewN _ _ _) (congrArg (World.drewN _) (Nat.add_assoc _ _ _))⟩))); try go_wp2_with (first | (go_at_call 31; (with_reducible refine (R1IsDay.calls ((rd_T54 l0 x3_1).f0) false _ A5.out).mono ?_); rintro e w' ⟨rfl, ⟨nd, rfl⟩⟩; (try first | exact ⟨rfl, _, World.drewN_drewN _ _ _⟩ | exact ⟨rfl, _, Eq.trans (World.drewN_drewN _ _ _) (congrArg (World.drewN _) (Nat.add_assoc _ _ _))⟩))))
      go_ret
      exact ⟨zE, zH⟩
    ·rw [if_neg c3] at H
     have c3b0 := decide_eq_false c3
     clear c3
     obtain rfl := Option.some.inj H
     go_wp2
     repeat (go_quiet (fail); try go_wp2)
     go_ret
     exact ⟨zE, zH⟩
end Go.Proofs.YtggfilmdfpmbmaaDoor.QN
end
section
namespace Go.Proofs.YtggfilmdfpmbmaaDoor.QN
open Go.RowKit Go.Proofs.YtggfilmdfpmbmaaDoorW.PrintWords Go.Proofs.YtggfilmdfpmbmaaDoorW.PrintLast Go.Proofs.YtggfilmdfpmbmaaDoorW.PrintMore
attribute [local go_sem] max2_int min2_int max_two min_two max_three min_three max_four min_four   -- for this text's walks alone
set_option linter.unusedVariables false
set_option linter.unusedSimpArgs false
attribute [local go_sem high] eqA29
def L0Few.f (a0_0 : Bool) (a0_1 : ByteArray) (a0_2 : ByteArray) : Option (Bool) := if (a0_1.size : Int) ≤ 24 then (some (decide ((a0_2.size : Int) ≤ 24))) else (some false)
set_option maxHeartbeats 8000000 in
set_option maxRecDepth 100000 in
theorem L0Few.calls (a0_0 : Bool) (a0_1 : ByteArray) (a0_2 : ByteArray) (r : Bool) (w : World) (h : L0Few.f a0_0 a0_1 a0_2 = some r) :
 Calls Tryd.prog 14 #[.agg #[.bool a0_0, .string a0_1, .string a0_2]] w fun e w' => e = .returned (.bool r) ∧ Below w.heap.size w w' := by
 have hu29 := Tryd.underlying29
 have HB := Aside0.mk (Below.refl w.heap.size w)
 have H : (if (a0_1.size : Int) ≤ 24 then (some (decide ((a0_2.size : Int) ≤ 24))) else (some false)) = some r := h
 clear h
 by_cases c2 : (a0_1.size : Int) ≤ 24
 ·rw [if_pos c2] at H
  have c2b0 := decide_eq_true c2
  have c2b1 : decide (a0_1.size ≤ 24) = true := decide_eq_true (by omega)
  clear c2
  obtain rfl := Option.some.inj H
  go_enter Tryd.func14, Tryd.ntmps14
  go_wp2_with (first | ((with_reducible refine gate_dst (N := 1) rfl ?_); (try (refine gate_guard (by rfl) ?_; dsimp only)); refine box_event ?hg (N := 1) ?hd (cs := #[.bool a0_0, .string a0_1, .string a0_2]) (t := 29) ?hr ?_; (case hd => rfl); (case hg => rfl); (case hr => first | (go_simp; done) | (go_simp; rfl)); intro gb909 hg w3 hbox hb; have n0_ := sB hb; have n1_ := Aside0.mk (hbox); have n2_ := wE w hg; have n3_ := wE w hg; revert n0_ n1_ n2_ n3_; clear HB; intro HB BK909 GW909 GE909; clear hb hbox hg; have hcz4_0 := cB BK909 0 (.bool a0_0); have hcz4_1 := cB BK909 1 (.string a0_1); have hcz4_2 := cB BK909 2 (.string a0_2); have hfz4_0 := blk_frozen BK909.out 0; have hfz4_1 := blk_frozen BK909.out 1; have hfz4_2 := blk_frozen BK909.out 2))
  go_ret
  exact ⟨zE, zH⟩
 ·rw [if_neg c2] at H
  have c2b0 := decide_eq_false c2
  have c2b1 : decide (a0_1.size ≤ 24) = false := decide_eq_false (by omega)
  clear c2
  obtain rfl := Option.some.inj H
  go_enter Tryd.func14, Tryd.ntmps14
  go_wp2_with (first | ((with_reducible refine gate_dst (N := 1) rfl ?_); (try (refine gate_guard (by rfl) ?_; dsimp only)); refine box_event ?hg (N := 1) ?hd (cs := #[.bool a0_0, .string a0_1, .string a0_2]) (t := 29) ?hr ?_; (case hd => rfl); (case hg => rfl); (case hr => first | (go_simp; done) | (go_simp; rfl)); intro gb909 hg w5 hbox hb; have n0_ := sB hb; have n1_ := Aside0.mk (hbox); have n2_ := wE w hg; have n3_ := wE w hg; revert n0_ n1_ n2_ n3_; clear HB; intro HB BK909 GW909 GE909; clear hb hbox hg; have hcz6_0 := cB BK909 0 (.bool a0_0); have hcz6_1 := cB BK909 1 (.string a0_1); have hcz6_2 := cB BK909 2 (.string a0_2); have hfz6_0 := blk_frozen BK909.out 0; have hfz6_1 := blk_frozen BK909.out 1; have hfz6_2 := blk_frozen BK909.out 2))
  go_ret
  exact ⟨zE, zH⟩
def L0Ratio.f (k : Nat) (a0 : Int) (a1 : Int) : Option (Bool × ByteArray × ByteArray) := (R1Fraction.f k a0 a1).bind fun bt911 => (some (bt911.1, bt911.2.1, bt911.2.2.1))
set_option maxHeartbeats 8000000 in
set_option maxRecDepth 100000 in
theorem L0Ratio.calls (k : Nat) (a0 : Int) (a1 : Int) (r1 : Bool) (r2 : ByteArray) (r3 : ByteArray) (w : World) (h : L0Ratio.f k a0 a1 = some (r1, r2, r3)) :
 Calls Tryd.prog 27 #[.int .i64 a0, .int .i64 a1] w fun e w' => e = .returned (.agg #[.bool r1, .string r2, .string r3]) ∧ Below w.heap.size w w' := by
 have hu29 := Tryd.underlying29
 have HB := Aside0.mk (Below.refl w.heap.size w)
 have H : ((R1Fraction.f k a0 a1).bind fun bt911 => (some (bt911.1, bt911.2.1, bt911.2.2.1))) = some (r1, r2, r3) := h
 clear h
 replace H := Option.bind_eq_some_iff.mp H
 obtain ⟨⟨t911, t912, t913, t914⟩, A30, H⟩ := H
 (try dsimp only at H)
 have A3 := Aside0.mk A30
 clear A30
 simp only [Option.some.injEq, Prod.mk.injEq] at H
 obtain ⟨rfl, rfl, rfl⟩ := H
 go_enter Tryd.func27, Tryd.ntmps27
 go_wp2_with (first | (refine box_evA 4 #[.bool false, .string (⟨#[]⟩ : ByteArray), .string (⟨#[]⟩ : ByteArray)] 29 ?_; intro gb910 hg w4 hbox hb; have n0_ := sB hb; have n1_ := Aside0.mk (hbox); have n2_ := wE w hg; have n3_ := wE w hg; revert n0_ n1_ n2_ n3_; clear HB; intro HB BK910 GW910 GE910; clear hb hbox hg) | (refine goesLA 10 Tryd.func52 #[.int .i64 a0, .int .i64 a1] ?_; (with_reducible refine (R1Fraction.calls k a0 a1 t911 t912 t913 t914 _ A3.out).mono ?_); rintro e w5 ⟨rfl, hb⟩; refine ⟨_, rfl, ?_⟩; have n0_ := bB BK910 hb; have n1_ := sB hb; revert n0_ n1_; clear BK910 HB; intro BK910 HB; (try clear hb); (try clear hb2); (try clear hk); (try clear hi)) | (refine box_evA 5 #[.bool false, .string (⟨#[]⟩ : ByteArray), .string (⟨#[]⟩ : ByteArray)] 29 ?_; intro gb915 hg w6 hbox hb; have n0_ := bB BK910 hb; have n1_ := sB hb; have n2_ := Aside0.mk (hbox); have n3_ := wE w hg; have n4_ := wE w hg; have n5_ := Aside0.mk (nL BK910 hg); have n6_ := Aside0.mk (nG BK910 hg); revert n0_ n1_ n2_ n3_ n4_ n5_ n6_; clear BK910 HB; intro BK910 HB BK915 GW915 GE915 NB910_915 NB915_910; clear hb hbox hg; have hnb7 := NB915_910.out; have hnc7 := NB910_915.out; have hcz8_0 := cB BK915 0 (.bool false); have hcz8_1 := cB BK915 1 (.string (⟨#[]⟩ : ByteArray)); have hcz8_2 := cB BK915 2 (.string (⟨#[]⟩ : ByteArray)); have hfz8_0 := blk_frozen BK915.out 0; have hfz8_1 := blk_frozen BK915.out 1; have hfz8_2 := blk_frozen BK915.out 2; have hcz9_0 := cB BK910 0 (.bool false); have hcz9_1 := cB BK910 1 (.string (⟨#[]⟩ : ByteArray)); have hcz9_2 := cB BK910 2 (.string (⟨#[]⟩ : ByteArray)); have hfz9_0 := blk_frozen BK910.out 0; have hfz9_1 := blk_frozen BK910.out 1; have hfz9_2 := blk_frozen BK910.out 2))
 refine bodyPost_ret (results_cell_row rfl _ _ gb910 29 #[.bool t911, .string t912, .string t913] (0, 0) _ rfl (bC BK910) Tryd.underlying29 rfl (by kernel_rfl)) rfl ?_
 exact ⟨zE, zH⟩
def L0Whole.f (k : Nat) (a0 : Int) : Option (Bool × ByteArray × ByteArray) := (R1Int.f k a0).bind fun bt926 => (some (bt926.1, bt926.2.1, bt926.2.2))
set_option maxHeartbeats 8000000 in
set_option maxRecDepth 100000 in
theorem L0Whole.calls (k : Nat) (a0 : Int) (r1 : Bool) (r2 : ByteArray) (r3 : ByteArray) (w : World) (h : L0Whole.f k a0 = some (r1, r2, r3)) :
 Calls Tryd.prog 28 #[.int .i64 a0] w fun e w' => e = .returned (.agg #[.bool r1, .string r2, .string r3]) ∧ Below w.heap.size w w' := by
 have hu29 := Tryd.underlying29
 have HB := Aside0.mk (Below.refl w.heap.size w)
 have H : ((R1Int.f k a0).bind fun bt926 => (some (bt926.1, bt926.2.1, bt926.2.2))) = some (r1, r2, r3) := h
 clear h
 replace H := Option.bind_eq_some_iff.mp H
 obtain ⟨⟨t926, t927, t928⟩, A20, H⟩ := H
 (try dsimp only at H)
 have A2 := Aside0.mk A20
 clear A20
 simp only [Option.some.injEq, Prod.mk.injEq] at H
 obtain ⟨rfl, rfl, rfl⟩ := H
 go_enter Tryd.func28, Tryd.ntmps28
 go_wp2_with (first | (refine box_evA 2 #[.bool false, .string (⟨#[]⟩ : ByteArray), .string (⟨#[]⟩ : ByteArray)] 29 ?_; intro gb925 hg w3 hbox hb; have n0_ := sB hb; have n1_ := Aside0.mk (hbox); have n2_ := wE w hg; have n3_ := wE w hg; revert n0_ n1_ n2_ n3_; clear HB; intro HB BK925 GW925 GE925; clear hb hbox hg) | (refine goesLA 4 Tryd.func40 #[.int .i64 a0] ?_; (with_reducible refine (R1Int.calls k a0 t926 t927 t928 _ A2.out).mono ?_); rintro e w4 ⟨rfl, hb⟩; refine ⟨_, rfl, ?_⟩; have n0_ := bB BK925 hb; have n1_ := sB hb; revert n0_ n1_; clear BK925 HB; intro BK925 HB; (try clear hb); (try clear hb2); (try clear hk); (try clear hi); have hcz5_0 := cB BK925 0 (.bool false); have hcz5_1 := cB BK925 1 (.string (⟨#[]⟩ : ByteArray)); have hcz5_2 := cB BK925 2 (.string (⟨#[]⟩ : ByteArray)); have hfz5_0 := blk_frozen BK925.out 0; have hfz5_1 := blk_frozen BK925.out 1; have hfz5_2 := blk_frozen BK925.out 2))
 refine bodyPost_ret (results_cell_row rfl _ _ gb925 29 #[.bool t926, .string t927, .string t928] (0, 0) _ rfl (bC BK925) Tryd.underlying29 rfl (by kernel_rfl)) rfl ?_
 exact ⟨zE, zH⟩
def L6few.l0 : Nat → List (S54) → Int → Int → Option (Bool)
 | 0, _, _, _ => none
 | k + 1, x8, x9, x10 => if x10 < x9 then (if 0 ≤ x10 then (if x10 < (x8.length : Int) then ((L0Few.f ((rd_T54 x8 x10).f1.f0) ((rd_T54 x8 x10).f1.f1) ((rd_T54 x8 x10).f1.f2)).bind fun t941 => (if t941 = true then (L6few.l0 k x8 x9 (wrap64 (x10 + 1))) else (some false))) else (none)) else (none)) else (some true)
def L6few.f (k : Nat) (l0 : List (S54)) : Option (Bool) := if (l0.length : Int) > 10 then (some false) else (L6few.l0 k l0 (l0.length : Int) 0)
set_option maxHeartbeats 8000000 in
set_option maxRecDepth 100000 in
theorem L6few.calls (k : Nat) (A0 : Option Addr) (c0 : Nat) (l0 : List (S54)) (r : Bool) (w : World) (hr0 : Kd.C k54 w A0 l0.length l0) (hc0 : l0.length ≤ c0) (h : L6few.f k l0 = some r) :
 Calls Tryd.prog 10 #[.slice A0 l0.length c0] w fun e w' => e = .returned (.bool r) ∧ Below w.heap.size w w' := by
 have hu54 := Tryd.underlying54
 have hu29 := Tryd.underlying29
 have HR0 := Aside0.mk hr0
 have HC0 := Aside0.mk hc0
 clear hr0 hc0
 have HB := Aside0.mk (Below.refl w.heap.size w)
 have H : (if (l0.length : Int) > 10 then (some false) else (L6few.l0 k l0 (l0.length : Int) 0)) = some r := h
 clear h
 by_cases c2 : (l0.length : Int) > 10
 ·rw [if_pos c2] at H
  have c2b0 := decide_eq_true c2
  have c2b1 : decide (10 < l0.length) = true := decide_eq_true (by omega)
  clear c2
  obtain rfl := Option.some.inj H
  go_enter Tryd.func10, Tryd.ntmps10
  go_wp2
  go_ret
  exact ⟨zE, zH⟩
 ·rw [if_neg c2] at H
  have c2b0 := decide_eq_false c2
  have c2b1 : decide (10 < l0.length) = false := decide_eq_false (by omega)
  clear c2
  have H' := Aside0.mk H
  clear H
  go_enter Tryd.func10, Tryd.ntmps10
  go_wp2
  go_loopg [10] k (fun kq v10 w' => ∃ (x10_1 : Int), v10 = .int .i64 x10_1 ∧ Aside0 (L6few.l0 kq l0 (l0.length : Int) x10_1 = some r) ∧ Aside0 (kq ≤ k) ∧ Aside0 (Below w.heap.size w w'))
  case atStart => exact ⟨(0), zq1, H', ⟨Nat.le_refl _⟩, ⟨zH⟩⟩
  case round =>
   clear H'
   (try clear c1); (try clear c2); (try clear c2b0); (try clear c2b1); (try clear p2)
   obtain ⟨x10_1, rfl, HA, HK1, HB⟩ := hrel
   cases gk with
   | zero => exact absurd HA.out (by simp [L6few.l0])
   | succ k1 =>
    have H := HA.out
    clear HA
    simp only [L6few.l0] at H
    by_cases c3 : x10_1 < (l0.length : Int)
    ·rw [if_pos c3] at H
     have c3b0 := decide_eq_true c3
     clear c3
     replace H := of_ite H
     obtain ⟨c4, H⟩ := H
     have c4b0 := decide_eq_true c4
     clear c4
     replace H := of_ite H
     obtain ⟨c5, H⟩ := H
     have c5b0 := decide_eq_true c5
     clear c5
     replace H := Option.bind_eq_some_iff.mp H
     obtain ⟨t941, A60, H⟩ := H
     (try dsimp only at H)
     have A6 := Aside0.mk A60
     clear A60
     by_cases c7 : t941 = true
     ·subst c7
      have H1 : (L6few.l0 k1 l0 (l0.length : Int) (wrap64 (x10_1 + 1))) = some r := by rw [if_pos rfl] at H; exact H
      clear H
      have H := H1
      clear H1
      have H' := Aside0.mk H
      clear H
      have p939 : 0 ≤ (x10_1 : Int) := of_decide_eq_true zq0
      have q939 : x10_1 < (l0.length : Int) := of_decide_eq_true zq0
      obtain ⟨ad939, e939, hx939_0, hx939_1, hx939_2, hx939_3⟩ := at_T54 HR0.out x10_1 p939 q939
      cases e939
      (try replace hx939_0 := (HB.out.cell (World.block_lt_of_cell? w _ hx939_0)).trans hx939_0)
      (try replace hx939_1 := (HB.out.cell (World.block_lt_of_cell? w _ hx939_1)).trans hx939_1)
      (try replace hx939_2 := (HB.out.cell (World.block_lt_of_cell? w _ hx939_2)).trans hx939_2)
      (try replace hx939_3 := (HB.out.cell (World.block_lt_of_cell? w _ hx939_3)).trans hx939_3)
      replace p939 := eq_true p939
      replace q939 := eq_true q939
      go_wp2_with (first | (refine box_evA 4 #[.int .i64 0, .bool false, .string (⟨#[]⟩ : ByteArray), .string (⟨#[]⟩ : ByteArray)] 54 ?_; intro gb940 hg w8 hbox hb; have n0_ := sB hb; have n1_ := Aside0.mk (hbox); have n2_ := wE w hg; have n3_ := wE w hg; revert n0_ n1_ n2_ n3_; clear HB; intro HB BK940 GW940 GE940; clear hb hbox hg; have hcz9_0 := cB BK940 0 (.int .i64 0); have hcz9_1 := cB BK940 1 (.bool false); have hcz9_2 := cB BK940 2 (.string (⟨#[]⟩ : ByteArray)); have hcz9_3 := cB BK940 3 (.string (⟨#[]⟩ : ByteArray)); have hfz9_0 := blk_frozen BK940.out 0; have hfz9_1 := blk_frozen BK940.out 1; have hfz9_2 := blk_frozen BK940.out 2; have hfz9_3 := blk_frozen BK940.out 3) | (refine goesLA 16 Tryd.func14 #[.agg #[.bool ((rd_T54 l0 x10_1).f1.f0), .string ((rd_T54 l0 x10_1).f1.f1), .string ((rd_T54 l0 x10_1).f1.f2)]] ?_; (with_reducible refine (L0Few.calls ((rd_T54 l0 x10_1).f1.f0) ((rd_T54 l0 x10_1).f1.f1) ((rd_T54 l0 x10_1).f1.f2) true _ A6.out).mono ?_); rintro e w10 ⟨rfl, hb⟩; refine ⟨_, rfl, ?_⟩; have n0_ := Aside0.mk (blk_below (bC BK940) hb); have n1_ := sB hb; revert n0_ n1_; clear BK940 HB; intro BK940 HB; (try clear hb); (try clear hb2); (try clear hk); (try clear hi)))
      go_roundg k1
      case measure => have := HK1.out; omega
      case rel => exact ⟨(wrap64 (x10_1 + 1)), zq1, H', ⟨by have := HK1.out; omega⟩, ⟨zH⟩⟩
     ·replace c7 := Bool.eq_false_iff.mpr c7
      subst c7
      have H1 : (some false) = some r := by rw [if_neg (show ¬ (false = true) by decide)] at H; exact H
      clear H
      have H := H1
      clear H1
      obtain rfl := Option.some.inj H
      have p939 : 0 ≤ (x10_1 : Int) := of_decide_eq_true zq0
      have q939 : x10_1 < (l0.length : Int) := of_decide_eq_true zq0
      obtain ⟨ad939, e939, hx939_0, hx939_1, hx939_2, hx939_3⟩ := at_T54 HR0.out x10_1 p939 q939
      cases e939
      (try replace hx939_0 := (HB.out.cell (World.block_lt_of_cell? w _ hx939_0)).trans hx939_0)
      (try replace hx939_1 := (HB.out.cell (World.block_lt_of_cell? w _ hx939_1)).trans hx939_1)
      (try replace hx939_2 := (HB.out.cell (World.block_lt_of_cell? w _ hx939_2)).trans hx939_2)
      (try replace hx939_3 := (HB.out.cell (World.block_lt_of_cell? w _ hx939_3)).trans hx939_3)
      replace p939 := eq_true p939
      replace q939 := eq_true q939
      go_wp2_with (first | (refine box_evA 4 #[.int .i64 0, .bool false, .string (⟨#[]⟩ : ByteArray), .string (⟨#[]⟩ : ByteArray)] 54 ?_; intro gb940 hg w11 hbox hb; have n0_ := sB hb; have n1_ := Aside0.mk (hbox); have n2_ := wE w hg; have n3_ := wE w hg; revert n0_ n1_ n2_ n3_; clear HB; intro HB BK940 GW940 GE940; clear hb hbox hg; have hcz12_0 := cB BK940 0 (.int .i64 0); have hcz12_1 := cB BK940 1 (.bool false); have hcz12_2 := cB BK940 2 (.string (⟨#[]⟩ : ByteArray)); have hcz12_3 := cB BK940 3 (.string (⟨#[]⟩ : ByteArray)); have hfz12_0 := blk_frozen BK940.out 0; have hfz12_1 := blk_frozen BK940.out 1; have hfz12_2 := blk_frozen BK940.out 2; have hfz12_3 := blk_frozen BK940.out 3) | (refine goesLA 16 Tryd.func14 #[.agg #[.bool ((rd_T54 l0 x10_1).f1.f0), .string ((rd_T54 l0 x10_1).f1.f1), .string ((rd_T54 l0 x10_1).f1.f2)]] ?_; (with_reducible refine (L0Few.calls ((rd_T54 l0 x10_1).f1.f0) ((rd_T54 l0 x10_1).f1.f1) ((rd_T54 l0 x10_1).f1.f2) false _ A6.out).mono ?_); rintro e w13 ⟨rfl, hb⟩; refine ⟨_, rfl, ?_⟩; have n0_ := Aside0.mk (blk_below (bC BK940) hb); have n1_ := sB hb; revert n0_ n1_; clear BK940 HB; intro BK940 HB; (try clear hb); (try clear hb2); (try clear hk); (try clear hi)))
      go_ret
      exact ⟨zE, zH⟩
    ·rw [if_neg c3] at H
     have c3b0 := decide_eq_false c3
     clear c3
     obtain rfl := Option.some.inj H
     go_wp2
     go_ret
     exact ⟨zE, zH⟩
end Go.Proofs.YtggfilmdfpmbmaaDoor.QN
end
section
namespace Go.Proofs.YtggfilmdfpmbmaaDoor.QN
open Go.RowKit Go.Proofs.YtggfilmdfpmbmaaDoorW.PrintWords Go.Proofs.YtggfilmdfpmbmaaDoorW.PrintLast Go.Proofs.YtggfilmdfpmbmaaDoorW.PrintMore
attribute [local go_sem] max2_int min2_int max_two min_two max_three min_three max_four min_four   -- for this text's walks alone
set_option linter.unusedVariables false
set_option linter.unusedSimpArgs false
attribute [local go_sem high] eqA29
def L6awake.f (k : Nat)  : Option (Bool) := (L0Ratio.f k 1 10).bind fun bt942 => ((some (([(⟨0, (⟨bt942.1, bt942.2.1, bt942.2.2⟩ : S29)⟩ : S54)] : List (S54)) : List (S54))).bind fun y945 => ((L0Whole.f k 36500).bind fun bt948 => ((I1Simple.f k bt948.1 bt948.2.1 bt948.2.2 y945 10 40 365).bind fun bt952 => ((I1Compound.f k bt948.1 bt948.2.1 bt948.2.2 y945 10 40 365 15).bind fun bt957 => (if bt952.2.2.2 = 0 then ((L0Whole.f k 300).bind fun bt962 => (if (bt952.1 == bt962.1 && (bt952.2.1.toList == bt962.2.1.toList && (bt952.2.2.1.toList == bt962.2.2.toList))) = true then (if bt957.2.2.2 = 0 then ((L0Ratio.f k 21945 73).bind fun bt965 => (some (bt957.1 == bt965.1 && (bt957.2.1.toList == bt965.2.1.toList && (bt957.2.2.1.toList == bt965.2.2.toList))))) else (some false)) else (some false))) else (some false))))))
def L6awake.T5 : Bool × List (List Nat × List Nat) := (true, [([], []), ([0], [0]), ([1], [1]), ([2], [2]), ([2, 2], [2]), ([3, 4, 2], [2, 3, 4]), ([2, 5], [2, 5]), ([6, 4], [6]), ([7], [7]), ([8, 7], [7, 8]), ([7, 9], [7, 9]), ([10, 7], [10]), ([11], [11]), ([11, 11], [11]), ([12, 13, 11], [11, 12, 13]), ([11, 14], [11, 14]), ([15, 13, 0, 1, 2, 3, 4, 5, 6, 7, 8, 9, 10, 11, 12, 13, 14, 15], [15])])
def L6awake.B5 : List Nat := [0, 1, 3, 7, 7, 31, 63, 127, 255, 511, 1023, 2047, 4095, 4095, 16383, 32767, 65535]
theorem L6awake.tab5 : rtab .any (opsOf Tryd.f11 5) = L6awake.T5 := by kernel_rfl
theorem L6awake.bits5 : waitsOk L6awake.T5.2 L6awake.B5 = true := by kernel_rfl
set_option maxHeartbeats 8000000 in
set_option maxRecDepth 100000 in
theorem L6awake.calls (k : Nat)  (r : Bool) (w : World) (h : L6awake.f k  = some r) :
 Calls Tryd.prog 11 #[] w fun e w' => e = .returned (.bool r) ∧ Below w.heap.size w w' := by
 have hu54 := Tryd.underlying54
 have hu29 := Tryd.underlying29
 have HB := Aside0.mk (Below.refl w.heap.size w)
 have H : ((L0Ratio.f k 1 10).bind fun bt942 => ((some (([(⟨0, (⟨bt942.1, bt942.2.1, bt942.2.2⟩ : S29)⟩ : S54)] : List (S54)) : List (S54))).bind fun y945 => ((L0Whole.f k 36500).bind fun bt948 => ((I1Simple.f k bt948.1 bt948.2.1 bt948.2.2 y945 10 40 365).bind fun bt952 => ((I1Compound.f k bt948.1 bt948.2.1 bt948.2.2 y945 10 40 365 15).bind fun bt957 => (if bt952.2.2.2 = 0 then ((L0Whole.f k 300).bind fun bt962 => (if (bt952.1 == bt962.1 && (bt952.2.1.toList == bt962.2.1.toList && (bt952.2.2.1.toList == bt962.2.2.toList))) = true then (if bt957.2.2.2 = 0 then ((L0Ratio.f k 21945 73).bind fun bt965 => (some (bt957.1 == bt965.1 && (bt957.2.1.toList == bt965.2.1.toList && (bt957.2.2.1.toList == bt965.2.2.toList))))) else (some false)) else (some false))) else (some false))))))) = some r := h
 clear h
 replace H := Option.bind_eq_some_iff.mp H
 obtain ⟨⟨t942, t943, t944⟩, A10, H⟩ := H
 (try dsimp only at H)
 have A1 := Aside0.mk A10
 clear A10
 obtain ⟨y945, hy945⟩ : ∃ y_ : List (S54), y_ = (([(⟨0, (⟨t942, t943, t944⟩ : S29)⟩ : S54)] : List (S54))) := ⟨_, rfl⟩
 replace H : ((L0Whole.f k 36500).bind fun bt948 => ((I1Simple.f k bt948.1 bt948.2.1 bt948.2.2 y945 10 40 365).bind fun bt952 => ((I1Compound.f k bt948.1 bt948.2.1 bt948.2.2 y945 10 40 365 15).bind fun bt957 => (if bt952.2.2.2 = 0 then ((L0Whole.f k 300).bind fun bt962 => (if (bt952.1 == bt962.1 && (bt952.2.1.toList == bt962.2.1.toList && (bt952.2.2.1.toList == bt962.2.2.toList))) = true then (if bt957.2.2.2 = 0 then ((L0Ratio.f k 21945 73).bind fun bt965 => (some (bt957.1 == bt965.1 && (bt957.2.1.toList == bt965.2.1.toList && (bt957.2.2.1.toList == bt965.2.2.toList))))) else (some false)) else (some false))) else (some false))))) = some r := by first | (rw [hy945]; with_reducible exact H) | (have H2_ := (Option.bind_some _ _).symm.trans H; rw [hy945]; with_reducible exact H2_) | (have H2_ := (Option.bind_some _ _).symm.trans H; with_reducible exact H2_) | with_reducible exact H | (rw [hy945]; exact H) | exact H
 have Ny945 := Aside0.mk hy945
 clear hy945
 replace H := Option.bind_eq_some_iff.mp H
 obtain ⟨⟨t948, t949, t950⟩, A20, H⟩ := H
 (try dsimp only at H)
 have A2 := Aside0.mk A20
 clear A20
 replace H := Option.bind_eq_some_iff.mp H
 obtain ⟨⟨t952, t953, t954, t955⟩, A30, H⟩ := H
 (try dsimp only at H)
 have A3 := Aside0.mk A30
 clear A30
 replace H := Option.bind_eq_some_iff.mp H
 obtain ⟨⟨t957, t958, t959, t960⟩, A40, H⟩ := H
 (try dsimp only at H)
 have A4 := Aside0.mk A40
 clear A40
 by_cases c5 : t955 = 0
 ·rw [if_pos c5] at H
  have c5b0 := beq_iff_eq.mpr c5
  have c5b1 : (t955 != 0) = false := bne_eq_false_iff_eq.mpr c5
  clear c5
  replace H := Option.bind_eq_some_iff.mp H
  obtain ⟨⟨t962, t963, t964⟩, A60, H⟩ := H
  (try dsimp only at H)
  have A6 := Aside0.mk A60
  clear A60
  by_cases c7 : (t952 == t962 && (t953.toList == t963.toList && (t954.toList == t964.toList))) = true
  ·rw [if_pos c7] at H
   have c7b0 : (t952 == t962 && (t953.toList == t963.toList && (t954.toList == t964.toList))) = true := c7
   (try (have c7b1 : decide (t952 = t962 && (t953.toList == t963.toList && (t954.toList == t964.toList))) = true := by simpa using c7))
   (try (have c7b2 : (t952 == t962 && (t953.toList == t963.toList && (t954.toList == t964.toList))) = true := by simpa using c7))
   clear c7
   by_cases c8 : t960 = 0
   ·rw [if_pos c8] at H
    have c8b0 := beq_iff_eq.mpr c8
    have c8b1 : (t960 != 0) = false := bne_eq_false_iff_eq.mpr c8
    clear c8
    replace H := Option.bind_eq_some_iff.mp H
    obtain ⟨⟨t965, t966, t967⟩, A90, H⟩ := H
    (try dsimp only at H)
    have A9 := Aside0.mk A90
    clear A90
    obtain rfl := Option.some.inj H
    go_enter Tryd.func11, Tryd.ntmps11
    try go_wp2_with (first | (refine goesLA 7 Tryd.func27 #[.int .i64 1, .int .i64 10] ?_; (with_reducible refine (L0Ratio.calls k 1 10 t942 t943 t944 _ A1.out).mono ?_); rintro e w10 ⟨rfl, hb⟩; refine ⟨_, rfl, ?_⟩; have n0_ := sB hb; revert n0_; clear HB; intro HB; (try clear hb); (try clear hb2); (try clear hk); (try clear hi)) | ((with_reducible refine gate_dst (N := 9) rfl ?_); refine Kd.R_lit k54 _ 54 ?hg (N := 9) ?hd (xs := ([(⟨0, (⟨t942, t943, t944⟩ : S29)⟩ : S54)] : List (S54))) (inner := [.int .i64 0, .bool t942, .string t943, .string t944]) (ok := fun _ => True) (okp := fun _ => True) ?hr ?hp (fun _ hk => hk) trivial (Below.refl _ _) (Nat.le_refl _) (by simp) ?_; (case hd => rfl); (case hg => rfl); (case hr => first | (go_simp; done) | (go_simp; rfl)); (case hp => exact (Reps.c4 (show Kd.M k54 _ _ _ (⟨0, (⟨t942, t943, t944⟩ : S29)⟩ : S54) [.int .i64 0, .bool t942, .string t943, .string t944] from (k54_mkM _ _ _ (⟨0, (⟨t942, t943, t944⟩ : S29)⟩ : S54) )) (Reps.none _ _))); intro v946 w11 ho12 hb hg_ hnew_; clear hg_ hnew_; (first | rw [← Ny945.out] at ho12 | (simp only [Int.reduceToNat] at ho12; rw [← Ny945.out] at ho12)); have n0_ := Aside0.mk (Kd.R_lower ho12 (below_size zH)); have n1_ := sB hb; revert n0_ n1_; clear HB; intro HO947 HB; clear hb ho12) | (refine goesLA 10 Tryd.func28 #[.int .i64 36500] ?_; (with_reducible refine (L0Whole.calls k 36500 t948 t949 t950 _ A2.out).mono ?_); rintro e w13 ⟨rfl, hb⟩; refine ⟨_, rfl, ?_⟩; have n0_ := Aside0.mk (Kd.R_below zq3 hb); have n1_ := sB hb; revert n0_ n1_; clear HO947 HB; intro HO947 HB; (try clear hb); (try clear hb2); (try clear hk); (try clear hi)) | (refine box_evA 2 #[.bool false, .string (⟨#[]⟩ : ByteArray), .string (⟨#[]⟩ : ByteArray)] 29 ?_; intro gb951 hg w14 hbox hb; have n0_ := Aside0.mk (Kd.R_below zq3 hb); have n1_ := sB hb; have n2_ := Aside0.mk (hbox); have n3_ := wE w hg; have n4_ := wE w hg; revert n0_ n1_ n2_ n3_ n4_; clear HO947 HB; intro HO947 HB BK951 GW951 GE951; clear hb hbox hg; have hcz15_0 := cB BK951 0 (.bool false); have hcz15_1 := cB BK951 1 (.string (⟨#[]⟩ : ByteArray)); have hcz15_2 := cB BK951 2 (.string (⟨#[]⟩ : ByteArray)); have hfz15_0 := blk_frozen BK951.out 0; have hfz15_1 := blk_frozen BK951.out 1; have hfz15_2 := blk_frozen BK951.out 2; obtain ⟨Ao16, co16, eo16⟩ := Kd.R_slice HO947.out; subst eo16) | (refine goesLA 14 Tryd.func15 #[.agg #[.bool t948, .string t949, .string t950], .slice Ao16 y945.length co16, .int .i64 10, .int .i64 40, .int .i64 365] ?_; (with_reducible refine (I1Simple.calls k t948 t949 t950 _ _ y945 10 40 365 t952 t953 t954 t955 _ ?side1 ?side2 A3.out).mono ?_); (case side1 => refine (Kd.R_reads' (e := 54) (base := w.heap.size) (ok := fun k_ => True) (n := y945.length) (c := co16) ?_).2.2; exact zq10); (case side2 => exact (Kd.R_reads' HO947.out).2.1); rintro e w17 ⟨rfl, hb⟩; refine ⟨_, rfl, ?_⟩; have n0_ := Aside0.mk (Kd.R_below zq10 hb); have n1_ := Aside0.mk (blk_below (bC BK951) hb); have n2_ := sB hb; revert n0_ n1_ n2_; clear HO947 BK951 HB; intro HO947 BK951 HB; (try clear hb); (try clear hb2); (try clear hk); (try clear hi)) | (refine box_evA 3 #[.bool false, .string (⟨#[]⟩ : ByteArray), .string (⟨#[]⟩ : ByteArray)] 29 ?_; intro gb956 hg w18 hbox hb; have n0_ := Aside0.mk (Kd.R_below zq3 hb); have n1_ := bB BK951 hb; have n2_ := sB hb; have n3_ := Aside0.mk (hbox); have n4_ := wE w hg; have n5_ := wE w hg; have n6_ := Aside0.mk (nL BK951 hg); have n7_ := Aside0.mk (nG BK951 hg); revert n0_ n1_ n2_ n3_ n4_ n5_ n6_ n7_; clear HO947 BK951 HB; intro HO947 BK951 HB BK956 GW956 GE956 NB951_956 NB956_951; clear hb hbox hg; have hnb19 := NB956_951.out; have hnc19 := NB951_956.out; have hcz20_0 := cB BK956 0 (.bool false); have hcz20_1 := cB BK956 1 (.string (⟨#[]⟩ : ByteArray)); have hcz20_2 := cB BK956 2 (.string (⟨#[]⟩ : ByteArray)); have hfz20_0 := blk_frozen BK956.out 0; have hfz20_1 := blk_frozen BK956.out 1; have hfz20_2 := blk_frozen BK956.out 2; have hcz21_0 := cB BK951 0 (.bool t948); have hcz21_1 := cB BK951 1 (.string t949); have hcz21_2 := cB BK951 2 (.string t950); have hfz21_0 := blk_frozen BK951.out 0; have hfz21_1 := blk_frozen BK951.out 1; have hfz21_2 := blk_frozen BK951.out 2) | (refine goesLA 20 Tryd.func21 #[.agg #[.bool t948, .string t949, .string t950], .slice Ao16 y945.length co16, .int .i64 10, .int .i64 40, .int .i64 365, .int .i64 15] ?_; (with_reducible refine (I1Compound.calls k t948 t949 t950 _ _ y945 10 40 365 15 t957 t958 t959 t960 _ ?side1 ?side2 A4.out).mono ?_); (case side1 => refine (Kd.R_reads' (e := 54) (base := w.heap.size) (ok := fun k_ => True) (n := y945.length) (c := co16) ?_).2.2; exact zq11); (case side2 => exact (Kd.R_reads' HO947.out).2.1); rintro e w22 ⟨rfl, hb⟩; refine ⟨_, rfl, ?_⟩; have n0_ := Aside0.mk (Kd.R_below zq11 hb); have n1_ := Aside0.mk (blk_below (bC BK951) hb); have n2_ := Aside0.mk (blk_below (bC BK956) hb); have n3_ := sB hb; revert n0_ n1_ n2_ n3_; clear HO947 BK951 BK956 HB; intro HO947 BK951 BK956 HB; (try clear hb); (try clear hb2); (try clear hk); (try clear hi)) | (refine box_evA 5 #[.bool false, .string (⟨#[]⟩ : ByteArray), .string (⟨#[]⟩ : ByteArray)] 29 ?_; intro gb961 hg w23 hbox hb; have n0_ := Aside0.mk (Kd.R_below zq3 hb); have n1_ := bB BK951 hb; have n2_ := bB BK956 hb; have n3_ := sB hb; have n4_ := Aside0.mk (hbox); have n5_ := wE w hg; have n6_ := wE w hg; have n7_ := Aside0.mk (nL BK951 hg); have n8_ := Aside0.mk (nG BK951 hg); have n9_ := Aside0.mk (nL BK956 hg); have n10_ := Aside0.mk (nG BK956 hg); revert n0_ n1_ n2_ n3_ n4_ n5_ n6_ n7_ n8_ n9_ n10_; clear HO947 BK951 BK956 HB; intro HO947 BK951 BK956 HB BK961 GW961 GE961 NB951_961 NB961_951 NB956_961 NB961_956; clear hb hbox hg; have hnb24 := NB961_951.out; have hnc24 := NB951_961.out; have hnb25 := NB961_956.out; have hnc25 := NB956_961.out; have hcz26_0 := cB BK961 0 (.bool false); have hcz26_1 := cB BK961 1 (.string (⟨#[]⟩ : ByteArray)); have hcz26_2 := cB BK961 2 (.string (⟨#[]⟩ : ByteArray)); have hfz26_0 := blk_frozen BK961.out 0; have hfz26_1 := blk_frozen BK961.out 1; have hfz26_2 := blk_frozen BK961.out 2))
    generalize hW_ : (((w23.setCell ⟨gb961, 0, none⟩ (.bool t957)).setCell ⟨gb961, 1, none⟩ (.string t958)).setCell ⟨gb961, 2, none⟩ (.string t959)) = w27
    have n0_ : Aside0 (Kd.R k54 54 w27 w.heap.size (fun _ => True) (.slice Ao16 y945.length co16) y945) := ⟨by subst hW_; (with_reducible repeat (first | apply Kd.R_alloc | apply Kd.R_drewN | apply Kd.R_drew)); exact Kd.R_mono (Kd.R_far (p := ⟨gb961, 2, none⟩) (Kd.R_far (p := ⟨gb961, 1, none⟩) (Kd.R_far (p := ⟨gb961, 0, none⟩) (Kd.R_types HO947.out BK961.out (by decide)) (fun _ hk => hk.2) (.bool t957)) (fun _ hk => hk.2) (.string t958)) (fun _ hk => hk.2) (.string t959)) (fun _ hk => trivial)⟩
    have n1_ : Aside0 (w27.heap[gb951]? = some (.cells #[.bool t948, .string t949, .string t950] 29 (0, 0))) := ⟨by subst hW_; exact bC BK951⟩
    have n2_ : Aside0 (w27.heap[gb956]? = some (.cells #[.bool t952, .string t953, .string t954] 29 (0, 0))) := ⟨by subst hW_; exact bC BK956⟩
    have n3_ : Aside0 (w27.heap[gb961]? = some (.cells #[.bool t957, .string t958, .string t959] 29 (0, 0))) := ⟨by subst hW_; exact bC BK961⟩
    have n4_ : Aside0 (Below w.heap.size w w27) := ⟨by subst hW_; exact zH⟩
    clear hW_
    (try clear HO947); (try clear BK951); (try clear BK956); (try clear BK961); (try clear HB)
    have HO947 := n0_
    have BK951 := n1_
    have BK956 := n2_
    have BK961 := n3_
    have HB := n4_
    clear n0_ n1_ n2_ n3_ n4_
    have n0_ := Aside0.mk (Kd.R_drew HO947.out)
    have n1_ := Aside0.mk (blk_drew BK951.out)
    have n2_ := Aside0.mk (blk_drew BK956.out)
    have n3_ := Aside0.mk (blk_drew BK961.out)
    have n4_ := Aside0.mk (below_drew1 HB.out)
    revert n0_ n1_ n2_ n3_ n4_
    clear HO947 BK951 BK956 BK961 HB
    intro HO947 BK951 BK956 BK961 HB
    refine start_ (n := 17) (S := fun w' => w'.cell? ⟨gb956, 0, none⟩ = some (.bool t952) ∧ w'.cell? ⟨gb956, 1, none⟩ = some (.string t953) ∧ w'.cell? ⟨gb956, 2, none⟩ = some (.string t954) ∧ w'.cell? ⟨gb961, 0, none⟩ = some (.bool t957) ∧ w'.cell? ⟨gb961, 1, none⟩ = some (.string t958) ∧ w'.cell? ⟨gb961, 2, none⟩ = some (.string t959)) (ds := []) #[false, false, false, false, false, false, false, false, false, false, false, false, false, false, false, false, false] (by kernel_rfl) rfl rfl ⟨cA BK956 0, cA BK956 1, cA BK956 2, cA BK961 0, cA BK961 1, cA BK961 2⟩ (fun hHeld => ?_); refine with_tabW L6awake.tab5 L6awake.bits5 (fun HT_ HW_ => ?_)
    generalize w27.drew = w28 at HO947 BK951 BK956 BK961 HB hHeld ⊢
    refine pureA 0 23 (lB 17 1) rfl rfl ?_
    refine pureA 1 24 (lB 17 3) rfl rfl ?_
    refine pureA 2 25 (lB 17 7) rfl rfl ?_
    refine takeA 3 26 (lB 17 15) rfl rfl hHeld ?_
    refine one_ (i := 4) (N := some 27) (lB 17 31) rfl rfl (one_of HT_.out (by kernel_rfl)) (by decide) (fun K hK => ?_)
    refine goes_ Tryd.func28 (by kernel_rfl) rfl #[.int .i64 300] (by rfl) rfl rfl zq2 ?_
    with_reducible refine (L0Whole.calls k 300 t962 t963 t964 _ A6.out).mono ?_
    rintro e w29 ⟨rfl, hb⟩
    refine ⟨_, rfl, ?_⟩
    have n0_ := Aside0.mk (Kd.R_below zq3 hb)
    have n1_ := bB BK951 hb
    have n2_ := bB BK956 hb
    have n3_ := bB BK961 hb
    have n4_ := sB hb
    revert n0_ n1_ n2_ n3_ n4_
    clear HO947 BK951 BK956 BK961 HB
    intro HO947 BK951 BK956 BK961 HB
    (try clear hb); (try clear hb2); (try clear hk); (try clear hi)
    refine hK.out _ _ ⟨cA BK956 0, cA BK956 1, cA BK956 2, cA BK961 0, cA BK961 1, cA BK961 2⟩ (fun hHeld => ?_)
    clear hK K
    refine normA (N := 27) ?_
    refine pureA 5 28 (lB 17 63) rfl rfl ?_
    refine pureA 6 29 (lB 17 127) rfl rfl ?_
    refine pureA 7 30 (lB 17 255) rfl rfl ?_
    refine pureA 8 31 (lB 17 511) rfl rfl ?_
    refine pureA 9 32 (lB 17 1023) rfl rfl ?_
    refine pureA 10 33 (lB 17 2047) rfl rfl ?_
    refine pureA 11 34 (lB 17 4095) rfl rfl ?_
    refine takeA 12 35 (lB 17 8191) rfl rfl hHeld ?_
    refine one_ (i := 13) (N := some 36) (lB 17 16383) rfl rfl (one_of HT_.out (by kernel_rfl)) (by decide) (fun K hK => ?_)
    refine goes_ Tryd.func27 (by kernel_rfl) rfl #[.int .i64 21945, .int .i64 73] (by rfl) rfl rfl zq2 ?_
    with_reducible refine (L0Ratio.calls k 21945 73 t965 t966 t967 _ A9.out).mono ?_
    rintro e w30 ⟨rfl, hb⟩
    refine ⟨_, rfl, ?_⟩
    have n0_ := Aside0.mk (Kd.R_below zq3 hb)
    have n1_ := bB BK951 hb
    have n2_ := bB BK956 hb
    have n3_ := bB BK961 hb
    have n4_ := sB hb
    revert n0_ n1_ n2_ n3_ n4_
    clear HO947 BK951 BK956 BK961 HB
    intro HO947 BK951 BK956 BK961 HB
    (try clear hb); (try clear hb2); (try clear hk); (try clear hi)
    refine hK.out _ _ ⟨cA BK956 0, cA BK956 1, cA BK956 2, cA BK961 0, cA BK961 1, cA BK961 2⟩ (fun hHeld => ?_)
    clear hK K
    refine normA (N := 36) ?_
    refine pureA 14 37 (lB 17 32767) rfl rfl ?_
    refine pureA 15 38 (lB 17 65535) rfl rfl ?_
    refine pureA 16 0 (lB 17 131071) rfl rfl ?_
    refine done_ (done_of HT_.out (by kernel_rfl)) ?_
    try go_wp2
    go_ret
    exact ⟨zE, zH⟩
   ·rw [if_neg c8] at H
    have c8b0 := beq_eq_false_iff_ne.mpr c8
    have c8b1 := bne_iff_ne.mpr c8
    obtain rfl := Option.some.inj H
    go_enter Tryd.func11, Tryd.ntmps11
    try go_wp2_with (first | (refine goesLA 7 Tryd.func27 #[.int .i64 1, .int .i64 10] ?_; (with_reducible refine (L0Ratio.calls k 1 10 t942 t943 t944 _ A1.out).mono ?_); rintro e w31 ⟨rfl, hb⟩; refine ⟨_, rfl, ?_⟩; have n0_ := sB hb; revert n0_; clear HB; intro HB; (try clear hb); (try clear hb2); (try clear hk); (try clear hi)) | ((with_reducible refine gate_dst (N := 9) rfl ?_); refine Kd.R_lit k54 _ 54 ?hg (N := 9) ?hd (xs := ([(⟨0, (⟨t942, t943, t944⟩ : S29)⟩ : S54)] : List (S54))) (inner := [.int .i64 0, .bool t942, .string t943, .string t944]) (ok := fun _ => True) (okp := fun _ => True) ?hr ?hp (fun _ hk => hk) trivial (Below.refl _ _) (Nat.le_refl _) (by simp) ?_; (case hd => rfl); (case hg => rfl); (case hr => first | (go_simp; done) | (go_simp; rfl)); (case hp => exact (Reps.c4 (show Kd.M k54 _ _ _ (⟨0, (⟨t942, t943, t944⟩ : S29)⟩ : S54) [.int .i64 0, .bool t942, .string t943, .string t944] from (k54_mkM _ _ _ (⟨0, (⟨t942, t943, t944⟩ : S29)⟩ : S54) )) (Reps.none _ _))); intro v946 w32 ho33 hb hg_ hnew_; clear hg_ hnew_; (first | rw [← Ny945.out] at ho33 | (simp only [Int.reduceToNat] at ho33; rw [← Ny945.out] at ho33)); have n0_ := Aside0.mk (Kd.R_lower ho33 (below_size zH)); have n1_ := sB hb; revert n0_ n1_; clear HB; intro HO947 HB; clear hb ho33) | (refine goesLA 10 Tryd.func28 #[.int .i64 36500] ?_; (with_reducible refine (L0Whole.calls k 36500 t948 t949 t950 _ A2.out).mono ?_); rintro e w34 ⟨rfl, hb⟩; refine ⟨_, rfl, ?_⟩; have n0_ := Aside0.mk (Kd.R_below zq3 hb); have n1_ := sB hb; revert n0_ n1_; clear HO947 HB; intro HO947 HB; (try clear hb); (try clear hb2); (try clear hk); (try clear hi)) | (refine box_evA 2 #[.bool false, .string (⟨#[]⟩ : ByteArray), .string (⟨#[]⟩ : ByteArray)] 29 ?_; intro gb951 hg w35 hbox hb; have n0_ := Aside0.mk (Kd.R_below zq3 hb); have n1_ := sB hb; have n2_ := Aside0.mk (hbox); have n3_ := wE w hg; have n4_ := wE w hg; revert n0_ n1_ n2_ n3_ n4_; clear HO947 HB; intro HO947 HB BK951 GW951 GE951; clear hb hbox hg; have hcz36_0 := cB BK951 0 (.bool false); have hcz36_1 := cB BK951 1 (.string (⟨#[]⟩ : ByteArray)); have hcz36_2 := cB BK951 2 (.string (⟨#[]⟩ : ByteArray)); have hfz36_0 := blk_frozen BK951.out 0; have hfz36_1 := blk_frozen BK951.out 1; have hfz36_2 := blk_frozen BK951.out 2; obtain ⟨Ao37, co37, eo37⟩ := Kd.R_slice HO947.out; subst eo37) | (refine goesLA 14 Tryd.func15 #[.agg #[.bool t948, .string t949, .string t950], .slice Ao37 y945.length co37, .int .i64 10, .int .i64 40, .int .i64 365] ?_; (with_reducible refine (I1Simple.calls k t948 t949 t950 _ _ y945 10 40 365 t952 t953 t954 t955 _ ?side1 ?side2 A3.out).mono ?_); (case side1 => refine (Kd.R_reads' (e := 54) (base := w.heap.size) (ok := fun k_ => True) (n := y945.length) (c := co37) ?_).2.2; exact zq10); (case side2 => exact (Kd.R_reads' HO947.out).2.1); rintro e w38 ⟨rfl, hb⟩; refine ⟨_, rfl, ?_⟩; have n0_ := Aside0.mk (Kd.R_below zq10 hb); have n1_ := Aside0.mk (blk_below (bC BK951) hb); have n2_ := sB hb; revert n0_ n1_ n2_; clear HO947 BK951 HB; intro HO947 BK951 HB; (try clear hb); (try clear hb2); (try clear hk); (try clear hi)) | (refine box_evA 3 #[.bool false, .string (⟨#[]⟩ : ByteArray), .string (⟨#[]⟩ : ByteArray)] 29 ?_; intro gb956 hg w39 hbox hb; have n0_ := Aside0.mk (Kd.R_below zq3 hb); have n1_ := bB BK951 hb; have n2_ := sB hb; have n3_ := Aside0.mk (hbox); have n4_ := wE w hg; have n5_ := wE w hg; have n6_ := Aside0.mk (nL BK951 hg); have n7_ := Aside0.mk (nG BK951 hg); revert n0_ n1_ n2_ n3_ n4_ n5_ n6_ n7_; clear HO947 BK951 HB; intro HO947 BK951 HB BK956 GW956 GE956 NB951_956 NB956_951; clear hb hbox hg; have hnb40 := NB956_951.out; have hnc40 := NB951_956.out; have hcz41_0 := cB BK956 0 (.bool false); have hcz41_1 := cB BK956 1 (.string (⟨#[]⟩ : ByteArray)); have hcz41_2 := cB BK956 2 (.string (⟨#[]⟩ : ByteArray)); have hfz41_0 := blk_frozen BK956.out 0; have hfz41_1 := blk_frozen BK956.out 1; have hfz41_2 := blk_frozen BK956.out 2; have hcz42_0 := cB BK951 0 (.bool t948); have hcz42_1 := cB BK951 1 (.string t949); have hcz42_2 := cB BK951 2 (.string t950); have hfz42_0 := blk_frozen BK951.out 0; have hfz42_1 := blk_frozen BK951.out 1; have hfz42_2 := blk_frozen BK951.out 2) | (refine goesLA 20 Tryd.func21 #[.agg #[.bool t948, .string t949, .string t950], .slice Ao37 y945.length co37, .int .i64 10, .int .i64 40, .int .i64 365, .int .i64 15] ?_; (with_reducible refine (I1Compound.calls k t948 t949 t950 _ _ y945 10 40 365 15 t957 t958 t959 t960 _ ?side1 ?side2 A4.out).mono ?_); (case side1 => refine (Kd.R_reads' (e := 54) (base := w.heap.size) (ok := fun k_ => True) (n := y945.length) (c := co37) ?_).2.2; exact zq11); (case side2 => exact (Kd.R_reads' HO947.out).2.1); rintro e w43 ⟨rfl, hb⟩; refine ⟨_, rfl, ?_⟩; have n0_ := Aside0.mk (Kd.R_below zq11 hb); have n1_ := Aside0.mk (blk_below (bC BK951) hb); have n2_ := Aside0.mk (blk_below (bC BK956) hb); have n3_ := sB hb; revert n0_ n1_ n2_ n3_; clear HO947 BK951 BK956 HB; intro HO947 BK951 BK956 HB; (try clear hb); (try clear hb2); (try clear hk); (try clear hi)) | (refine box_evA 5 #[.bool false, .string (⟨#[]⟩ : ByteArray), .string (⟨#[]⟩ : ByteArray)] 29 ?_; intro gb961 hg w44 hbox hb; have n0_ := Aside0.mk (Kd.R_below zq3 hb); have n1_ := bB BK951 hb; have n2_ := bB BK956 hb; have n3_ := sB hb; have n4_ := Aside0.mk (hbox); have n5_ := wE w hg; have n6_ := wE w hg; have n7_ := Aside0.mk (nL BK951 hg); have n8_ := Aside0.mk (nG BK951 hg); have n9_ := Aside0.mk (nL BK956 hg); have n10_ := Aside0.mk (nG BK956 hg); revert n0_ n1_ n2_ n3_ n4_ n5_ n6_ n7_ n8_ n9_ n10_; clear HO947 BK951 BK956 HB; intro HO947 BK951 BK956 HB BK961 GW961 GE961 NB951_961 NB961_951 NB956_961 NB961_956; clear hb hbox hg; have hnb45 := NB961_951.out; have hnc45 := NB951_961.out; have hnb46 := NB961_956.out; have hnc46 := NB956_961.out; have hcz47_0 := cB BK961 0 (.bool false); have hcz47_1 := cB BK961 1 (.string (⟨#[]⟩ : ByteArray)); have hcz47_2 := cB BK961 2 (.string (⟨#[]⟩ : ByteArray)); have hfz47_0 := blk_frozen BK961.out 0; have hfz47_1 := blk_frozen BK961.out 1; have hfz47_2 := blk_frozen BK961.out 2))
    generalize hW_ : (((w44.setCell ⟨gb961, 0, none⟩ (.bool t957)).setCell ⟨gb961, 1, none⟩ (.string t958)).setCell ⟨gb961, 2, none⟩ (.string t959)) = w48
    have n0_ : Aside0 (Kd.R k54 54 w48 w.heap.size (fun _ => True) (.slice Ao37 y945.length co37) y945) := ⟨by subst hW_; (with_reducible repeat (first | apply Kd.R_alloc | apply Kd.R_drewN | apply Kd.R_drew)); exact Kd.R_mono (Kd.R_far (p := ⟨gb961, 2, none⟩) (Kd.R_far (p := ⟨gb961, 1, none⟩) (Kd.R_far (p := ⟨gb961, 0, none⟩) (Kd.R_types HO947.out BK961.out (by decide)) (fun _ hk => hk.2) (.bool t957)) (fun _ hk => hk.2) (.string t958)) (fun _ hk => hk.2) (.string t959)) (fun _ hk => trivial)⟩
    have n1_ : Aside0 (w48.heap[gb951]? = some (.cells #[.bool t948, .string t949, .string t950] 29 (0, 0))) := ⟨by subst hW_; exact bC BK951⟩
    have n2_ : Aside0 (w48.heap[gb956]? = some (.cells #[.bool t952, .string t953, .string t954] 29 (0, 0))) := ⟨by subst hW_; exact bC BK956⟩
    have n3_ : Aside0 (w48.heap[gb961]? = some (.cells #[.bool t957, .string t958, .string t959] 29 (0, 0))) := ⟨by subst hW_; exact bC BK961⟩
    have n4_ : Aside0 (Below w.heap.size w w48) := ⟨by subst hW_; exact zH⟩
    clear hW_
    (try clear HO947); (try clear BK951); (try clear BK956); (try clear BK961); (try clear HB)
    have HO947 := n0_
    have BK951 := n1_
    have BK956 := n2_
    have BK961 := n3_
    have HB := n4_
    clear n0_ n1_ n2_ n3_ n4_
    have n0_ := Aside0.mk (Kd.R_drew HO947.out)
    have n1_ := Aside0.mk (blk_drew BK951.out)
    have n2_ := Aside0.mk (blk_drew BK956.out)
    have n3_ := Aside0.mk (blk_drew BK961.out)
    have n4_ := Aside0.mk (below_drew1 HB.out)
    revert n0_ n1_ n2_ n3_ n4_
    clear HO947 BK951 BK956 BK961 HB
    intro HO947 BK951 BK956 BK961 HB
    refine start_ (n := 17) (S := fun w' => w'.cell? ⟨gb956, 0, none⟩ = some (.bool t952) ∧ w'.cell? ⟨gb956, 1, none⟩ = some (.string t953) ∧ w'.cell? ⟨gb956, 2, none⟩ = some (.string t954)) (ds := []) #[false, false, false, false, false, false, false, false, false, false, false, false, false, false, false, false, false] (by kernel_rfl) rfl rfl ⟨cA BK956 0, cA BK956 1, cA BK956 2⟩ (fun hHeld => ?_); refine with_tabW L6awake.tab5 L6awake.bits5 (fun HT_ HW_ => ?_)
    generalize w48.drew = w49 at HO947 BK951 BK956 BK961 HB hHeld ⊢
    refine pureA 0 23 (lB 17 1) rfl rfl ?_
    refine pureA 1 24 (lB 17 3) rfl rfl ?_
    refine pureA 2 25 (lB 17 7) rfl rfl ?_
    refine takeA 3 26 (lB 17 15) rfl rfl hHeld ?_
    refine one_ (i := 4) (N := some 27) (lB 17 31) rfl rfl (one_of HT_.out (by kernel_rfl)) (by decide) (fun K hK => ?_)
    refine goes_ Tryd.func28 (by kernel_rfl) rfl #[.int .i64 300] (by rfl) rfl rfl zq2 ?_
    with_reducible refine (L0Whole.calls k 300 t962 t963 t964 _ A6.out).mono ?_
    rintro e w50 ⟨rfl, hb⟩
    refine ⟨_, rfl, ?_⟩
    have n0_ := Aside0.mk (Kd.R_below zq3 hb)
    have n1_ := bB BK951 hb
    have n2_ := bB BK956 hb
    have n3_ := bB BK961 hb
    have n4_ := sB hb
    revert n0_ n1_ n2_ n3_ n4_
    clear HO947 BK951 BK956 BK961 HB
    intro HO947 BK951 BK956 BK961 HB
    (try clear hb); (try clear hb2); (try clear hk); (try clear hi)
    refine hK.out _ _ ⟨cA BK956 0, cA BK956 1, cA BK956 2⟩ (fun hHeld => ?_)
    clear hK K
    refine normA (N := 27) ?_
    refine pureA 5 28 (lB 17 63) rfl rfl ?_
    refine pureA 6 29 (lB 17 127) rfl rfl ?_
    refine pureA 7 30 (lB 17 255) rfl rfl ?_
    refine pureA 8 31 (lB 17 511) rfl rfl ?_
    refine pureA 9 32 (lB 17 1023) rfl rfl ?_
    refine pureA 10 33 (lB 17 2047) rfl rfl ?_
    refine pureA 11 34 (lB 17 4095) rfl rfl ?_
    refine pure_ (i := 12) (N := some 35) (v := undef) (a' := ?_) #[true, true, true, true, true, true, true, true, true, true, true, true, true, false, false, false, false] rfl rfl (any_of HT_.out (by kernel_rfl)) (fun _ _ _ h => h) (Or.inr ⟨by rfl, rfl⟩) ?_ ?_
    rotate_left
    ·simp only [Act.put, List.setIfInBounds_toArray, List.set_cons_zero, List.set_cons_succ, i64_w, i32_w]
     rfl
    refine pure_ (i := 13) (N := some 36) (v := undef) (a' := ?_) #[true, true, true, true, true, true, true, true, true, true, true, true, true, true, false, false, false] rfl rfl (any_of HT_.out (by kernel_rfl)) (fun _ _ _ h => h) (Or.inr ⟨by rfl, rfl⟩) ?_ ?_
    rotate_left
    ·simp only [Act.put, List.setIfInBounds_toArray, List.set_cons_zero, List.set_cons_succ, i64_w, i32_w]
     rfl
    refine pure_ (i := 14) (N := some 37) (v := undef) (a' := ?_) #[true, true, true, true, true, true, true, true, true, true, true, true, true, true, true, false, false] rfl rfl (any_of HT_.out (by kernel_rfl)) (fun _ _ _ h => h) (Or.inr ⟨by rfl, rfl⟩) ?_ ?_
    rotate_left
    ·simp only [Act.put, List.setIfInBounds_toArray, List.set_cons_zero, List.set_cons_succ, i64_w, i32_w]
     rfl
    refine pureA 15 38 (lB 17 65535) rfl rfl ?_
    refine pureA 16 0 (lB 17 131071) rfl rfl ?_
    refine done_ (done_of HT_.out (by kernel_rfl)) ?_
    try go_wp2
    go_ret
    exact ⟨zE, zH⟩
  ·rw [if_neg c7] at H
   have c7b0 : (t952 == t962 && (t953.toList == t963.toList && (t954.toList == t964.toList))) = false := by simpa using c7
   (try (have c7b1 : decide (t952 = t962 && (t953.toList == t963.toList && (t954.toList == t964.toList))) = false := by simpa using c7))
   (try (have c7b2 : (t952 == t962 && (t953.toList == t963.toList && (t954.toList == t964.toList))) = false := by simpa using c7))
   (try (have c7b3 : ¬ (t952 = t962 && (t953.toList == t963.toList && (t954.toList == t964.toList))) := by simpa using c7))
   clear c7
   obtain rfl := Option.some.inj H
   go_enter Tryd.func11, Tryd.ntmps11
   try go_wp2_with (first | (refine goesLA 7 Tryd.func27 #[.int .i64 1, .int .i64 10] ?_; (with_reducible refine (L0Ratio.calls k 1 10 t942 t943 t944 _ A1.out).mono ?_); rintro e w51 ⟨rfl, hb⟩; refine ⟨_, rfl, ?_⟩; have n0_ := sB hb; revert n0_; clear HB; intro HB; (try clear hb); (try clear hb2); (try clear hk); (try clear hi)) | ((with_reducible refine gate_dst (N := 9) rfl ?_); refine Kd.R_lit k54 _ 54 ?hg (N := 9) ?hd (xs := ([(⟨0, (⟨t942, t943, t944⟩ : S29)⟩ : S54)] : List (S54))) (inner := [.int .i64 0, .bool t942, .string t943, .string t944]) (ok := fun _ => True) (okp := fun _ => True) ?hr ?hp (fun _ hk => hk) trivial (Below.refl _ _) (Nat.le_refl _) (by simp) ?_; (case hd => rfl); (case hg => rfl); (case hr => first | (go_simp; done) | (go_simp; rfl)); (case hp => exact (Reps.c4 (show Kd.M k54 _ _ _ (⟨0, (⟨t942, t943, t944⟩ : S29)⟩ : S54) [.int .i64 0, .bool t942, .string t943, .string t944] from (k54_mkM _ _ _ (⟨0, (⟨t942, t943, t944⟩ : S29)⟩ : S54) )) (Reps.none _ _))); intro v946 w52 ho53 hb hg_ hnew_; clear hg_ hnew_; (first | rw [← Ny945.out] at ho53 | (simp only [Int.reduceToNat] at ho53; rw [← Ny945.out] at ho53)); have n0_ := Aside0.mk (Kd.R_lower ho53 (below_size zH)); have n1_ := sB hb; revert n0_ n1_; clear HB; intro HO947 HB; clear hb ho53) | (refine goesLA 10 Tryd.func28 #[.int .i64 36500] ?_; (with_reducible refine (L0Whole.calls k 36500 t948 t949 t950 _ A2.out).mono ?_); rintro e w54 ⟨rfl, hb⟩; refine ⟨_, rfl, ?_⟩; have n0_ := Aside0.mk (Kd.R_below zq3 hb); have n1_ := sB hb; revert n0_ n1_; clear HO947 HB; intro HO947 HB; (try clear hb); (try clear hb2); (try clear hk); (try clear hi)) | (refine box_evA 2 #[.bool false, .string (⟨#[]⟩ : ByteArray), .string (⟨#[]⟩ : ByteArray)] 29 ?_; intro gb951 hg w55 hbox hb; have n0_ := Aside0.mk (Kd.R_below zq3 hb); have n1_ := sB hb; have n2_ := Aside0.mk (hbox); have n3_ := wE w hg; have n4_ := wE w hg; revert n0_ n1_ n2_ n3_ n4_; clear HO947 HB; intro HO947 HB BK951 GW951 GE951; clear hb hbox hg; have hcz56_0 := cB BK951 0 (.bool false); have hcz56_1 := cB BK951 1 (.string (⟨#[]⟩ : ByteArray)); have hcz56_2 := cB BK951 2 (.string (⟨#[]⟩ : ByteArray)); have hfz56_0 := blk_frozen BK951.out 0; have hfz56_1 := blk_frozen BK951.out 1; have hfz56_2 := blk_frozen BK951.out 2; obtain ⟨Ao57, co57, eo57⟩ := Kd.R_slice HO947.out; subst eo57) | (refine goesLA 14 Tryd.func15 #[.agg #[.bool t948, .string t949, .string t950], .slice Ao57 y945.length co57, .int .i64 10, .int .i64 40, .int .i64 365] ?_; (with_reducible refine (I1Simple.calls k t948 t949 t950 _ _ y945 10 40 365 t952 t953 t954 t955 _ ?side1 ?side2 A3.out).mono ?_); (case side1 => refine (Kd.R_reads' (e := 54) (base := w.heap.size) (ok := fun k_ => True) (n := y945.length) (c := co57) ?_).2.2; exact zq10); (case side2 => exact (Kd.R_reads' HO947.out).2.1); rintro e w58 ⟨rfl, hb⟩; refine ⟨_, rfl, ?_⟩; have n0_ := Aside0.mk (Kd.R_below zq10 hb); have n1_ := Aside0.mk (blk_below (bC BK951) hb); have n2_ := sB hb; revert n0_ n1_ n2_; clear HO947 BK951 HB; intro HO947 BK951 HB; (try clear hb); (try clear hb2); (try clear hk); (try clear hi)) | (refine box_evA 3 #[.bool false, .string (⟨#[]⟩ : ByteArray), .string (⟨#[]⟩ : ByteArray)] 29 ?_; intro gb956 hg w59 hbox hb; have n0_ := Aside0.mk (Kd.R_below zq3 hb); have n1_ := bB BK951 hb; have n2_ := sB hb; have n3_ := Aside0.mk (hbox); have n4_ := wE w hg; have n5_ := wE w hg; have n6_ := Aside0.mk (nL BK951 hg); have n7_ := Aside0.mk (nG BK951 hg); revert n0_ n1_ n2_ n3_ n4_ n5_ n6_ n7_; clear HO947 BK951 HB; intro HO947 BK951 HB BK956 GW956 GE956 NB951_956 NB956_951; clear hb hbox hg; have hnb60 := NB956_951.out; have hnc60 := NB951_956.out; have hcz61_0 := cB BK956 0 (.bool false); have hcz61_1 := cB BK956 1 (.string (⟨#[]⟩ : ByteArray)); have hcz61_2 := cB BK956 2 (.string (⟨#[]⟩ : ByteArray)); have hfz61_0 := blk_frozen BK956.out 0; have hfz61_1 := blk_frozen BK956.out 1; have hfz61_2 := blk_frozen BK956.out 2; have hcz62_0 := cB BK951 0 (.bool t948); have hcz62_1 := cB BK951 1 (.string t949); have hcz62_2 := cB BK951 2 (.string t950); have hfz62_0 := blk_frozen BK951.out 0; have hfz62_1 := blk_frozen BK951.out 1; have hfz62_2 := blk_frozen BK951.out 2) | (refine goesLA 20 Tryd.func21 #[.agg #[.bool t948, .string t949, .string t950], .slice Ao57 y945.length co57, .int .i64 10, .int .i64 40, .int .i64 365, .int .i64 15] ?_; (with_reducible refine (I1Compound.calls k t948 t949 t950 _ _ y945 10 40 365 15 t957 t958 t959 t960 _ ?side1 ?side2 A4.out).mono ?_); (case side1 => refine (Kd.R_reads' (e := 54) (base := w.heap.size) (ok := fun k_ => True) (n := y945.length) (c := co57) ?_).2.2; exact zq11); (case side2 => exact (Kd.R_reads' HO947.out).2.1); rintro e w63 ⟨rfl, hb⟩; refine ⟨_, rfl, ?_⟩; have n0_ := Aside0.mk (Kd.R_below zq11 hb); have n1_ := Aside0.mk (blk_below (bC BK951) hb); have n2_ := Aside0.mk (blk_below (bC BK956) hb); have n3_ := sB hb; revert n0_ n1_ n2_ n3_; clear HO947 BK951 BK956 HB; intro HO947 BK951 BK956 HB; (try clear hb); (try clear hb2); (try clear hk); (try clear hi)) | (refine box_evA 5 #[.bool false, .string (⟨#[]⟩ : ByteArray), .string (⟨#[]⟩ : ByteArray)] 29 ?_; intro gb961 hg w64 hbox hb; have n0_ := Aside0.mk (Kd.R_below zq3 hb); have n1_ := bB BK951 hb; have n2_ := bB BK956 hb; have n3_ := sB hb; have n4_ := Aside0.mk (hbox); have n5_ := wE w hg; have n6_ := wE w hg; have n7_ := Aside0.mk (nL BK951 hg); have n8_ := Aside0.mk (nG BK951 hg); have n9_ := Aside0.mk (nL BK956 hg); have n10_ := Aside0.mk (nG BK956 hg); revert n0_ n1_ n2_ n3_ n4_ n5_ n6_ n7_ n8_ n9_ n10_; clear HO947 BK951 BK956 HB; intro HO947 BK951 BK956 HB BK961 GW961 GE961 NB951_961 NB961_951 NB956_961 NB961_956; clear hb hbox hg; have hnb65 := NB961_951.out; have hnc65 := NB951_961.out; have hnb66 := NB961_956.out; have hnc66 := NB956_961.out; have hcz67_0 := cB BK961 0 (.bool false); have hcz67_1 := cB BK961 1 (.string (⟨#[]⟩ : ByteArray)); have hcz67_2 := cB BK961 2 (.string (⟨#[]⟩ : ByteArray)); have hfz67_0 := blk_frozen BK961.out 0; have hfz67_1 := blk_frozen BK961.out 1; have hfz67_2 := blk_frozen BK961.out 2))
   generalize hW_ : (((w64.setCell ⟨gb961, 0, none⟩ (.bool t957)).setCell ⟨gb961, 1, none⟩ (.string t958)).setCell ⟨gb961, 2, none⟩ (.string t959)) = w68
   have n0_ : Aside0 (Kd.R k54 54 w68 w.heap.size (fun _ => True) (.slice Ao57 y945.length co57) y945) := ⟨by subst hW_; (with_reducible repeat (first | apply Kd.R_alloc | apply Kd.R_drewN | apply Kd.R_drew)); exact Kd.R_mono (Kd.R_far (p := ⟨gb961, 2, none⟩) (Kd.R_far (p := ⟨gb961, 1, none⟩) (Kd.R_far (p := ⟨gb961, 0, none⟩) (Kd.R_types HO947.out BK961.out (by decide)) (fun _ hk => hk.2) (.bool t957)) (fun _ hk => hk.2) (.string t958)) (fun _ hk => hk.2) (.string t959)) (fun _ hk => trivial)⟩
   have n1_ : Aside0 (w68.heap[gb951]? = some (.cells #[.bool t948, .string t949, .string t950] 29 (0, 0))) := ⟨by subst hW_; exact bC BK951⟩
   have n2_ : Aside0 (w68.heap[gb956]? = some (.cells #[.bool t952, .string t953, .string t954] 29 (0, 0))) := ⟨by subst hW_; exact bC BK956⟩
   have n3_ : Aside0 (w68.heap[gb961]? = some (.cells #[.bool t957, .string t958, .string t959] 29 (0, 0))) := ⟨by subst hW_; exact bC BK961⟩
   have n4_ : Aside0 (Below w.heap.size w w68) := ⟨by subst hW_; exact zH⟩
   clear hW_
   (try clear HO947); (try clear BK951); (try clear BK956); (try clear BK961); (try clear HB)
   have HO947 := n0_
   have BK951 := n1_
   have BK956 := n2_
   have BK961 := n3_
   have HB := n4_
   clear n0_ n1_ n2_ n3_ n4_
   have n0_ := Aside0.mk (Kd.R_drew HO947.out)
   have n1_ := Aside0.mk (blk_drew BK951.out)
   have n2_ := Aside0.mk (blk_drew BK956.out)
   have n3_ := Aside0.mk (blk_drew BK961.out)
   have n4_ := Aside0.mk (below_drew1 HB.out)
   revert n0_ n1_ n2_ n3_ n4_
   clear HO947 BK951 BK956 BK961 HB
   intro HO947 BK951 BK956 BK961 HB
   refine start_ (n := 17) (S := fun w' => w'.cell? ⟨gb956, 0, none⟩ = some (.bool t952) ∧ w'.cell? ⟨gb956, 1, none⟩ = some (.string t953) ∧ w'.cell? ⟨gb956, 2, none⟩ = some (.string t954)) (ds := []) #[false, false, false, false, false, false, false, false, false, false, false, false, false, false, false, false, false] (by kernel_rfl) rfl rfl ⟨cA BK956 0, cA BK956 1, cA BK956 2⟩ (fun hHeld => ?_); refine with_tabW L6awake.tab5 L6awake.bits5 (fun HT_ HW_ => ?_)
   generalize w68.drew = w69 at HO947 BK951 BK956 BK961 HB hHeld ⊢
   refine pureA 0 23 (lB 17 1) rfl rfl ?_
   refine pureA 1 24 (lB 17 3) rfl rfl ?_
   refine pureA 2 25 (lB 17 7) rfl rfl ?_
   refine takeA 3 26 (lB 17 15) rfl rfl hHeld ?_
   refine one_ (i := 4) (N := some 27) (lB 17 31) rfl rfl (one_of HT_.out (by kernel_rfl)) (by decide) (fun K hK => ?_)
   refine goes_ Tryd.func28 (by kernel_rfl) rfl #[.int .i64 300] (by rfl) rfl rfl zq2 ?_
   with_reducible refine (L0Whole.calls k 300 t962 t963 t964 _ A6.out).mono ?_
   rintro e w70 ⟨rfl, hb⟩
   refine ⟨_, rfl, ?_⟩
   have n0_ := Aside0.mk (Kd.R_below zq3 hb)
   have n1_ := bB BK951 hb
   have n2_ := bB BK956 hb
   have n3_ := bB BK961 hb
   have n4_ := sB hb
   revert n0_ n1_ n2_ n3_ n4_
   clear HO947 BK951 BK956 BK961 HB
   intro HO947 BK951 BK956 BK961 HB
   (try clear hb); (try clear hb2); (try clear hk); (try clear hi)
   refine hK.out _ _ ⟨cA BK956 0, cA BK956 1, cA BK956 2⟩ (fun hHeld => ?_)
   clear hK K
   refine normA (N := 27) ?_
   refine pureA 5 28 (lB 17 63) rfl rfl ?_
   refine pureA 6 29 (lB 17 127) rfl rfl ?_
   refine pureA 7 30 (lB 17 255) rfl rfl ?_
   refine pure_ (i := 8) (N := some 31) (v := undef) (a' := ?_) #[true, true, true, true, true, true, true, true, true, false, false, false, false, false, false, false, false] rfl rfl (any_of HT_.out (by kernel_rfl)) (fun _ _ _ h => h) (Or.inr ⟨by rfl, rfl⟩) ?_ ?_
   rotate_left
   ·simp only [Act.put, List.setIfInBounds_toArray, List.set_cons_zero, List.set_cons_succ, i64_w, i32_w]
    rfl
   refine pure_ (i := 9) (N := some 32) (v := undef) (a' := ?_) #[true, true, true, true, true, true, true, true, true, true, false, false, false, false, false, false, false] rfl rfl (any_of HT_.out (by kernel_rfl)) (fun _ _ _ h => h) (Or.inr ⟨by rfl, rfl⟩) ?_ ?_
   rotate_left
   ·simp only [Act.put, List.setIfInBounds_toArray, List.set_cons_zero, List.set_cons_succ, i64_w, i32_w]
    rfl
   refine pureA 10 33 (lB 17 2047) rfl rfl ?_
   refine pureA 11 34 (lB 17 4095) rfl rfl ?_
   refine pure_ (i := 12) (N := some 35) (v := undef) (a' := ?_) #[true, true, true, true, true, true, true, true, true, true, true, true, true, false, false, false, false] rfl rfl (any_of HT_.out (by kernel_rfl)) (fun _ _ _ h => h) (Or.inr ⟨by rfl, rfl⟩) ?_ ?_
   rotate_left
   ·simp only [Act.put, List.setIfInBounds_toArray, List.set_cons_zero, List.set_cons_succ, i64_w, i32_w]
    rfl
   refine pure_ (i := 13) (N := some 36) (v := undef) (a' := ?_) #[true, true, true, true, true, true, true, true, true, true, true, true, true, true, false, false, false] rfl rfl (any_of HT_.out (by kernel_rfl)) (fun _ _ _ h => h) (Or.inr ⟨by rfl, rfl⟩) ?_ ?_
   rotate_left
   ·simp only [Act.put, List.setIfInBounds_toArray, List.set_cons_zero, List.set_cons_succ, i64_w, i32_w]
    rfl
   refine pure_ (i := 14) (N := some 37) (v := undef) (a' := ?_) #[true, true, true, true, true, true, true, true, true, true, true, true, true, true, true, false, false] rfl rfl (any_of HT_.out (by kernel_rfl)) (fun _ _ _ h => h) (Or.inr ⟨by rfl, rfl⟩) ?_ ?_
   rotate_left
   ·simp only [Act.put, List.setIfInBounds_toArray, List.set_cons_zero, List.set_cons_succ, i64_w, i32_w]
    rfl
   refine pureA 15 38 (lB 17 65535) rfl rfl ?_
   refine pureA 16 0 (lB 17 131071) rfl rfl ?_
   refine done_ (done_of HT_.out (by kernel_rfl)) ?_
   try go_wp2
   go_ret
   exact ⟨zE, zH⟩
 ·rw [if_neg c5] at H
  have c5b0 := beq_eq_false_iff_ne.mpr c5
  have c5b1 := bne_iff_ne.mpr c5
  obtain rfl := Option.some.inj H
  go_enter Tryd.func11, Tryd.ntmps11
  try go_wp2_with (first | (refine goesLA 7 Tryd.func27 #[.int .i64 1, .int .i64 10] ?_; (with_reducible refine (L0Ratio.calls k 1 10 t942 t943 t944 _ A1.out).mono ?_); rintro e w71 ⟨rfl, hb⟩; refine ⟨_, rfl, ?_⟩; have n0_ := sB hb; revert n0_; clear HB; intro HB; (try clear hb); (try clear hb2); (try clear hk); (try clear hi)) | ((with_reducible refine gate_dst (N := 9) rfl ?_); refine Kd.R_lit k54 _ 54 ?hg (N := 9) ?hd (xs := ([(⟨0, (⟨t942, t943, t944⟩ : S29)⟩ : S54)] : List (S54))) (inner := [.int .i64 0, .bool t942, .string t943, .string t944]) (ok := fun _ => True) (okp := fun _ => True) ?hr ?hp (fun _ hk => hk) trivial (Below.refl _ _) (Nat.le_refl _) (by simp) ?_; (case hd => rfl); (case hg => rfl); (case hr => first | (go_simp; done) | (go_simp; rfl)); (case hp => exact (Reps.c4 (show Kd.M k54 _ _ _ (⟨0, (⟨t942, t943, t944⟩ : S29)⟩ : S54) [.int .i64 0, .bool t942, .string t943, .string t944] from (k54_mkM _ _ _ (⟨0, (⟨t942, t943, t944⟩ : S29)⟩ : S54) )) (Reps.none _ _))); intro v946 w72 ho73 hb hg_ hnew_; clear hg_ hnew_; (first | rw [← Ny945.out] at ho73 | (simp only [Int.reduceToNat] at ho73; rw [← Ny945.out] at ho73)); have n0_ := Aside0.mk (Kd.R_lower ho73 (below_size zH)); have n1_ := sB hb; revert n0_ n1_; clear HB; intro HO947 HB; clear hb ho73) | (refine goesLA 10 Tryd.func28 #[.int .i64 36500] ?_; (with_reducible refine (L0Whole.calls k 36500 t948 t949 t950 _ A2.out).mono ?_); rintro e w74 ⟨rfl, hb⟩; refine ⟨_, rfl, ?_⟩; have n0_ := Aside0.mk (Kd.R_below zq3 hb); have n1_ := sB hb; revert n0_ n1_; clear HO947 HB; intro HO947 HB; (try clear hb); (try clear hb2); (try clear hk); (try clear hi)) | (refine box_evA 2 #[.bool false, .string (⟨#[]⟩ : ByteArray), .string (⟨#[]⟩ : ByteArray)] 29 ?_; intro gb951 hg w75 hbox hb; have n0_ := Aside0.mk (Kd.R_below zq3 hb); have n1_ := sB hb; have n2_ := Aside0.mk (hbox); have n3_ := wE w hg; have n4_ := wE w hg; revert n0_ n1_ n2_ n3_ n4_; clear HO947 HB; intro HO947 HB BK951 GW951 GE951; clear hb hbox hg; have hcz76_0 := cB BK951 0 (.bool false); have hcz76_1 := cB BK951 1 (.string (⟨#[]⟩ : ByteArray)); have hcz76_2 := cB BK951 2 (.string (⟨#[]⟩ : ByteArray)); have hfz76_0 := blk_frozen BK951.out 0; have hfz76_1 := blk_frozen BK951.out 1; have hfz76_2 := blk_frozen BK951.out 2; obtain ⟨Ao77, co77, eo77⟩ := Kd.R_slice HO947.out; subst eo77) | (refine goesLA 14 Tryd.func15 #[.agg #[.bool t948, .string t949, .string t950], .slice Ao77 y945.length co77, .int .i64 10, .int .i64 40, .int .i64 365] ?_; (with_reducible refine (I1Simple.calls k t948 t949 t950 _ _ y945 10 40 365 t952 t953 t954 t955 _ ?side1 ?side2 A3.out).mono ?_); (case side1 => refine (Kd.R_reads' (e := 54) (base := w.heap.size) (ok := fun k_ => True) (n := y945.length) (c := co77) ?_).2.2; exact zq10); (case side2 => exact (Kd.R_reads' HO947.out).2.1); rintro e w78 ⟨rfl, hb⟩; refine ⟨_, rfl, ?_⟩; have n0_ := Aside0.mk (Kd.R_below zq10 hb); have n1_ := Aside0.mk (blk_below (bC BK951) hb); have n2_ := sB hb; revert n0_ n1_ n2_; clear HO947 BK951 HB; intro HO947 BK951 HB; (try clear hb); (try clear hb2); (try clear hk); (try clear hi)) | (refine box_evA 3 #[.bool false, .string (⟨#[]⟩ : ByteArray), .string (⟨#[]⟩ : ByteArray)] 29 ?_; intro gb956 hg w79 hbox hb; have n0_ := Aside0.mk (Kd.R_below zq3 hb); have n1_ := bB BK951 hb; have n2_ := sB hb; have n3_ := Aside0.mk (hbox); have n4_ := wE w hg; have n5_ := wE w hg; have n6_ := Aside0.mk (nL BK951 hg); have n7_ := Aside0.mk (nG BK951 hg); revert n0_ n1_ n2_ n3_ n4_ n5_ n6_ n7_; clear HO947 BK951 HB; intro HO947 BK951 HB BK956 GW956 GE956 NB951_956 NB956_951; clear hb hbox hg; have hnb80 := NB956_951.out; have hnc80 := NB951_956.out; have hcz81_0 := cB BK956 0 (.bool false); have hcz81_1 := cB BK956 1 (.string (⟨#[]⟩ : ByteArray)); have hcz81_2 := cB BK956 2 (.string (⟨#[]⟩ : ByteArray)); have hfz81_0 := blk_frozen BK956.out 0; have hfz81_1 := blk_frozen BK956.out 1; have hfz81_2 := blk_frozen BK956.out 2; have hcz82_0 := cB BK951 0 (.bool t948); have hcz82_1 := cB BK951 1 (.string t949); have hcz82_2 := cB BK951 2 (.string t950); have hfz82_0 := blk_frozen BK951.out 0; have hfz82_1 := blk_frozen BK951.out 1; have hfz82_2 := blk_frozen BK951.out 2) | (refine goesLA 20 Tryd.func21 #[.agg #[.bool t948, .string t949, .string t950], .slice Ao77 y945.length co77, .int .i64 10, .int .i64 40, .int .i64 365, .int .i64 15] ?_; (with_reducible refine (I1Compound.calls k t948 t949 t950 _ _ y945 10 40 365 15 t957 t958 t959 t960 _ ?side1 ?side2 A4.out).mono ?_); (case side1 => refine (Kd.R_reads' (e := 54) (base := w.heap.size) (ok := fun k_ => True) (n := y945.length) (c := co77) ?_).2.2; exact zq11); (case side2 => exact (Kd.R_reads' HO947.out).2.1); rintro e w83 ⟨rfl, hb⟩; refine ⟨_, rfl, ?_⟩; have n0_ := Aside0.mk (Kd.R_below zq11 hb); have n1_ := Aside0.mk (blk_below (bC BK951) hb); have n2_ := Aside0.mk (blk_below (bC BK956) hb); have n3_ := sB hb; revert n0_ n1_ n2_ n3_; clear HO947 BK951 BK956 HB; intro HO947 BK951 BK956 HB; (try clear hb); (try clear hb2); (try clear hk); (try clear hi)) | (refine box_evA 5 #[.bool false, .string (⟨#[]⟩ : ByteArray), .string (⟨#[]⟩ : ByteArray)] 29 ?_; intro gb961 hg w84 hbox hb; have n0_ := Aside0.mk (Kd.R_below zq3 hb); have n1_ := bB BK951 hb; have n2_ := bB BK956 hb; have n3_ := sB hb; have n4_ := Aside0.mk (hbox); have n5_ := wE w hg; have n6_ := wE w hg; have n7_ := Aside0.mk (nL BK951 hg); have n8_ := Aside0.mk (nG BK951 hg); have n9_ := Aside0.mk (nL BK956 hg); have n10_ := Aside0.mk (nG BK956 hg); revert n0_ n1_ n2_ n3_ n4_ n5_ n6_ n7_ n8_ n9_ n10_; clear HO947 BK951 BK956 HB; intro HO947 BK951 BK956 HB BK961 GW961 GE961 NB951_961 NB961_951 NB956_961 NB961_956; clear hb hbox hg; have hnb85 := NB961_951.out; have hnc85 := NB951_961.out; have hnb86 := NB961_956.out; have hnc86 := NB956_961.out; have hcz87_0 := cB BK961 0 (.bool false); have hcz87_1 := cB BK961 1 (.string (⟨#[]⟩ : ByteArray)); have hcz87_2 := cB BK961 2 (.string (⟨#[]⟩ : ByteArray)); have hfz87_0 := blk_frozen BK961.out 0; have hfz87_1 := blk_frozen BK961.out 1; have hfz87_2 := blk_frozen BK961.out 2))
  generalize hW_ : (((w84.setCell ⟨gb961, 0, none⟩ (.bool t957)).setCell ⟨gb961, 1, none⟩ (.string t958)).setCell ⟨gb961, 2, none⟩ (.string t959)) = w88
  have n0_ : Aside0 (Kd.R k54 54 w88 w.heap.size (fun _ => True) (.slice Ao77 y945.length co77) y945) := ⟨by subst hW_; (with_reducible repeat (first | apply Kd.R_alloc | apply Kd.R_drewN | apply Kd.R_drew)); exact Kd.R_mono (Kd.R_far (p := ⟨gb961, 2, none⟩) (Kd.R_far (p := ⟨gb961, 1, none⟩) (Kd.R_far (p := ⟨gb961, 0, none⟩) (Kd.R_types HO947.out BK961.out (by decide)) (fun _ hk => hk.2) (.bool t957)) (fun _ hk => hk.2) (.string t958)) (fun _ hk => hk.2) (.string t959)) (fun _ hk => trivial)⟩
  have n1_ : Aside0 (w88.heap[gb951]? = some (.cells #[.bool t948, .string t949, .string t950] 29 (0, 0))) := ⟨by subst hW_; exact bC BK951⟩
  have n2_ : Aside0 (w88.heap[gb956]? = some (.cells #[.bool t952, .string t953, .string t954] 29 (0, 0))) := ⟨by subst hW_; exact bC BK956⟩
  have n3_ : Aside0 (w88.heap[gb961]? = some (.cells #[.bool t957, .string t958, .string t959] 29 (0, 0))) := ⟨by subst hW_; exact bC BK961⟩
  have n4_ : Aside0 (Below w.heap.size w w88) := ⟨by subst hW_; exact zH⟩
  clear hW_
  (try clear HO947); (try clear BK951); (try clear BK956); (try clear BK961); (try clear HB)
  have HO947 := n0_
  have BK951 := n1_
  have BK956 := n2_
  have BK961 := n3_
  have HB := n4_
  clear n0_ n1_ n2_ n3_ n4_
  have n0_ := Aside0.mk (Kd.R_drew HO947.out)
  have n1_ := Aside0.mk (blk_drew BK951.out)
  have n2_ := Aside0.mk (blk_drew BK956.out)
  have n3_ := Aside0.mk (blk_drew BK961.out)
  have n4_ := Aside0.mk (below_drew1 HB.out)
  revert n0_ n1_ n2_ n3_ n4_
  clear HO947 BK951 BK956 BK961 HB
  intro HO947 BK951 BK956 BK961 HB
  refine start_ (n := 17) (S := fun w' => True) (ds := []) #[false, false, false, false, false, false, false, false, false, false, false, false, false, false, false, false, false] (by kernel_rfl) rfl rfl trivial (fun hHeld => ?_); refine with_tabW L6awake.tab5 L6awake.bits5 (fun HT_ HW_ => ?_)
  generalize w88.drew = w89 at HO947 BK951 BK956 BK961 HB hHeld ⊢
  refine pureA 0 23 (lB 17 1) rfl rfl ?_
  refine pureA 1 24 (lB 17 3) rfl rfl ?_
  refine pureA 2 25 (lB 17 7) rfl rfl ?_
  refine pure_ (i := 3) (N := some 26) (v := undef) (a' := ?_) #[true, true, true, true, false, false, false, false, false, false, false, false, false, false, false, false, false] rfl rfl (any_of HT_.out (by kernel_rfl)) (fun _ _ _ h => h) (Or.inr ⟨by rfl, rfl⟩) ?_ ?_
  rotate_left
  ·simp only [Act.put, List.setIfInBounds_toArray, List.set_cons_zero, List.set_cons_succ, i64_w, i32_w]
   rfl
  refine pure_ (i := 4) (N := some 27) (v := undef) (a' := ?_) #[true, true, true, true, true, false, false, false, false, false, false, false, false, false, false, false, false] rfl rfl (any_of HT_.out (by kernel_rfl)) (fun _ _ _ h => h) (Or.inr ⟨by rfl, rfl⟩) ?_ ?_
  rotate_left
  ·simp only [Act.put, List.setIfInBounds_toArray, List.set_cons_zero, List.set_cons_succ, i64_w, i32_w]
   rfl
  refine pure_ (i := 5) (N := some 28) (v := undef) (a' := ?_) #[true, true, true, true, true, true, false, false, false, false, false, false, false, false, false, false, false] rfl rfl (any_of HT_.out (by kernel_rfl)) (fun _ _ _ h => h) (Or.inr ⟨by rfl, rfl⟩) ?_ ?_
  rotate_left
  ·simp only [Act.put, List.setIfInBounds_toArray, List.set_cons_zero, List.set_cons_succ, i64_w, i32_w]
   rfl
  refine pureA 6 29 (lB 17 127) rfl rfl ?_
  refine pureA 7 30 (lB 17 255) rfl rfl ?_
  refine pure_ (i := 8) (N := some 31) (v := undef) (a' := ?_) #[true, true, true, true, true, true, true, true, true, false, false, false, false, false, false, false, false] rfl rfl (any_of HT_.out (by kernel_rfl)) (fun _ _ _ h => h) (Or.inr ⟨by rfl, rfl⟩) ?_ ?_
  rotate_left
  ·simp only [Act.put, List.setIfInBounds_toArray, List.set_cons_zero, List.set_cons_succ, i64_w, i32_w]
   rfl
  refine pure_ (i := 9) (N := some 32) (v := undef) (a' := ?_) #[true, true, true, true, true, true, true, true, true, true, false, false, false, false, false, false, false] rfl rfl (any_of HT_.out (by kernel_rfl)) (fun _ _ _ h => h) (Or.inr ⟨by rfl, rfl⟩) ?_ ?_
  rotate_left
  ·simp only [Act.put, List.setIfInBounds_toArray, List.set_cons_zero, List.set_cons_succ, i64_w, i32_w]
   rfl
  refine pureA 10 33 (lB 17 2047) rfl rfl ?_
  refine pureA 11 34 (lB 17 4095) rfl rfl ?_
  refine pure_ (i := 12) (N := some 35) (v := undef) (a' := ?_) #[true, true, true, true, true, true, true, true, true, true, true, true, true, false, false, false, false] rfl rfl (any_of HT_.out (by kernel_rfl)) (fun _ _ _ h => h) (Or.inr ⟨by rfl, rfl⟩) ?_ ?_
  rotate_left
  ·simp only [Act.put, List.setIfInBounds_toArray, List.set_cons_zero, List.set_cons_succ, i64_w, i32_w]
   rfl
  refine pure_ (i := 13) (N := some 36) (v := undef) (a' := ?_) #[true, true, true, true, true, true, true, true, true, true, true, true, true, true, false, false, false] rfl rfl (any_of HT_.out (by kernel_rfl)) (fun _ _ _ h => h) (Or.inr ⟨by rfl, rfl⟩) ?_ ?_
  rotate_left
  ·simp only [Act.put, List.setIfInBounds_toArray, List.set_cons_zero, List.set_cons_succ, i64_w, i32_w]
   rfl
  refine pure_ (i := 14) (N := some 37) (v := undef) (a' := ?_) #[true, true, true, true, true, true, true, true, true, true, true, true, true, true, true, false, false] rfl rfl (any_of HT_.out (by kernel_rfl)) (fun _ _ _ h => h) (Or.inr ⟨by rfl, rfl⟩) ?_ ?_
  rotate_left
  ·simp only [Act.put, List.setIfInBounds_toArray, List.set_cons_zero, List.set_cons_succ, i64_w, i32_w]
   rfl
  refine pureA 15 38 (lB 17 65535) rfl rfl ?_
  refine pureA 16 0 (lB 17 131071) rfl rfl ?_
  refine done_ (done_of HT_.out (by kernel_rfl)) ?_
  try go_wp2
  go_ret
  exact ⟨zE, zH⟩
end Go.Proofs.YtggfilmdfpmbmaaDoor.QN
end
section
namespace Go.Proofs.YtggfilmdfpmbmaaDoor.QN
open Go.RowKit Go.Proofs.YtggfilmdfpmbmaaDoorW.PrintWords Go.Proofs.YtggfilmdfpmbmaaDoorW.PrintLast Go.Proofs.YtggfilmdfpmbmaaDoorW.PrintMore
attribute [local go_sem] max2_int min2_int max_two min_two max_three min_three max_four min_four   -- for this text's walks alone
set_option linter.unusedVariables false
set_option linter.unusedSimpArgs false
attribute [local go_sem high] eqA29
def L6InterestCheck.f (k : Nat) (l0 : List (S54)) : Option (Bool) := (L6few.f k l0).bind fun t968 => (if t968 = true then ((L6awake.f k).bind fun t969 => (if t969 = true then ((I1Check.f k l0).bind fun t970 => ((R1CheckSteps.f k l0).bind fun t971 => (some (t970 == t971)))) else (some false))) else ((L6awake.f k).bind fun t972 => (some t972)))
set_option maxHeartbeats 8000000 in
set_option maxRecDepth 100000 in
theorem L6InterestCheck.calls (k : Nat) (A0 : Option Addr) (c0 : Nat) (l0 : List (S54)) (r : Bool) (w : World) (hr0 : Kd.C k54 w A0 l0.length l0) (hc0 : l0.length ≤ c0) (h : L6InterestCheck.f k l0 = some r) :
 Calls Tryd.prog 3 #[.slice A0 l0.length c0] w fun e w' => e = .returned (.bool r) ∧ Below w.heap.size w w' := by
 have HR0 := Aside0.mk hr0
 have HC0 := Aside0.mk hc0
 clear hr0 hc0
 have HB := Aside0.mk (Below.refl w.heap.size w)
 have H : ((L6few.f k l0).bind fun t968 => (if t968 = true then ((L6awake.f k).bind fun t969 => (if t969 = true then ((I1Check.f k l0).bind fun t970 => ((R1CheckSteps.f k l0).bind fun t971 => (some (t970 == t971)))) else (some false))) else ((L6awake.f k).bind fun t972 => (some t972)))) = some r := h
 clear h
 replace H := Option.bind_eq_some_iff.mp H
 obtain ⟨t968, A20, H⟩ := H
 (try dsimp only at H)
 have A2 := Aside0.mk A20
 clear A20
 by_cases c3 : t968 = true
 ·subst c3
  have H1 : ((L6awake.f k).bind fun t969 => (if t969 = true then ((I1Check.f k l0).bind fun t970 => ((R1CheckSteps.f k l0).bind fun t971 => (some (t970 == t971)))) else (some false))) = some r := by rw [if_pos rfl] at H; exact H
  clear H
  have H := H1
  clear H1
  replace H := Option.bind_eq_some_iff.mp H
  obtain ⟨t969, A40, H⟩ := H
  (try dsimp only at H)
  have A4 := Aside0.mk A40
  clear A40
  by_cases c5 : t969 = true
  ·subst c5
   have H1 : ((I1Check.f k l0).bind fun t970 => ((R1CheckSteps.f k l0).bind fun t971 => (some (t970 == t971)))) = some r := by rw [if_pos rfl] at H; exact H
   clear H
   have H := H1
   clear H1
   replace H := Option.bind_eq_some_iff.mp H
   obtain ⟨t970, A60, H⟩ := H
   (try dsimp only at H)
   have A6 := Aside0.mk A60
   clear A60
   replace H := Option.bind_eq_some_iff.mp H
   obtain ⟨t971, A70, H⟩ := H
   (try dsimp only at H)
   have A7 := Aside0.mk A70
   clear A70
   obtain rfl := Option.some.inj H
   go_enter Tryd.func3, Tryd.ntmps3
   go_wp2_with (first | (refine goesLA 4 Tryd.func10 #[.slice A0 l0.length c0] ?_; (with_reducible refine (L6few.calls k _ _ l0 true _ ?side1 ?side2 A2.out).mono ?_); (case side1 => repeat (first | exact HR0.out | (with_reducible refine Kd.C_alloc ?_ _) | (with_reducible refine Kd.C_drewN ?_ _) | (with_reducible refine Kd.C_drew ?_))); (case side2 => exact HC0.out); rintro e w8 ⟨rfl, hb⟩; refine ⟨_, rfl, ?_⟩; have n0_ := sB hb; revert n0_; clear HB; intro HB; (try clear hb); (try clear hb2); (try clear hk); (try clear hi)) | (refine goesLA 7 Tryd.func11 #[] ?_; (with_reducible refine (L6awake.calls k  true _ A4.out).mono ?_); rintro e w9 ⟨rfl, hb⟩; refine ⟨_, rfl, ?_⟩; have n0_ := sB hb; revert n0_; clear HB; intro HB; (try clear hb); (try clear hb2); (try clear hk); (try clear hi)) | (go_at_call 12; (with_reducible refine (I1Check.calls k _ _ l0 t970 _ ?side1 ?side2 A6.out).mono ?_); (case side1 => repeat (first | exact (Kd.C_below HR0.out HB.out) | (with_reducible refine Kd.C_alloc ?_ _) | (with_reducible refine Kd.C_drewN ?_ _) | (with_reducible refine Kd.C_drew ?_))); (case side2 => exact HC0.out); rintro e w10 ⟨rfl, hb⟩; have n0_ := sB hb; revert n0_; clear HB; intro HB; (try clear hb); (try clear hb2); (try clear hk); (try clear hi)) | (go_at_call 13; (with_reducible refine (R1CheckSteps.calls k _ _ l0 t971 _ ?side1 ?side2 A7.out).mono ?_); (case side1 => repeat (first | exact (Kd.C_below HR0.out HB.out) | (with_reducible refine Kd.C_alloc ?_ _) | (with_reducible refine Kd.C_drewN ?_ _) | (with_reducible refine Kd.C_drew ?_))); (case side2 => exact HC0.out); rintro e w11 ⟨rfl, hb⟩; have n0_ := sB hb; revert n0_; clear HB; intro HB; (try clear hb); (try clear hb2); (try clear hk); (try clear hi)))
   go_ret
   exact ⟨zE, zH⟩
  ·replace c5 := Bool.eq_false_iff.mpr c5
   subst c5
   have H1 : (some false) = some r := by rw [if_neg (show ¬ (false = true) by decide)] at H; exact H
   clear H
   have H := H1
   clear H1
   obtain rfl := Option.some.inj H
   go_enter Tryd.func3, Tryd.ntmps3
   go_wp2_with (first | (refine goesLA 4 Tryd.func10 #[.slice A0 l0.length c0] ?_; (with_reducible refine (L6few.calls k _ _ l0 true _ ?side1 ?side2 A2.out).mono ?_); (case side1 => repeat (first | exact HR0.out | (with_reducible refine Kd.C_alloc ?_ _) | (with_reducible refine Kd.C_drewN ?_ _) | (with_reducible refine Kd.C_drew ?_))); (case side2 => exact HC0.out); rintro e w12 ⟨rfl, hb⟩; refine ⟨_, rfl, ?_⟩; have n0_ := sB hb; revert n0_; clear HB; intro HB; (try clear hb); (try clear hb2); (try clear hk); (try clear hi)) | (refine goesLA 7 Tryd.func11 #[] ?_; (with_reducible refine (L6awake.calls k  false _ A4.out).mono ?_); rintro e w13 ⟨rfl, hb⟩; refine ⟨_, rfl, ?_⟩; have n0_ := sB hb; revert n0_; clear HB; intro HB; (try clear hb); (try clear hb2); (try clear hk); (try clear hi)))
   go_ret
   exact ⟨zE, zH⟩
 ·replace c3 := Bool.eq_false_iff.mpr c3
  subst c3
  have H1 : ((L6awake.f k).bind fun t972 => (some t972)) = some r := by rw [if_neg (show ¬ (false = true) by decide)] at H; exact H
  clear H
  have H := H1
  clear H1
  replace H := Option.bind_eq_some_iff.mp H
  obtain ⟨t972, A140, H⟩ := H
  (try dsimp only at H)
  have A14 := Aside0.mk A140
  clear A140
  obtain rfl := Option.some.inj H
  go_enter Tryd.func3, Tryd.ntmps3
  go_wp2_with (first | (refine goesLA 4 Tryd.func10 #[.slice A0 l0.length c0] ?_; (with_reducible refine (L6few.calls k _ _ l0 false _ ?side1 ?side2 A2.out).mono ?_); (case side1 => repeat (first | exact HR0.out | (with_reducible refine Kd.C_alloc ?_ _) | (with_reducible refine Kd.C_drewN ?_ _) | (with_reducible refine Kd.C_drew ?_))); (case side2 => exact HC0.out); rintro e w15 ⟨rfl, hb⟩; refine ⟨_, rfl, ?_⟩; have n0_ := sB hb; revert n0_; clear HB; intro HB; (try clear hb); (try clear hb2); (try clear hk); (try clear hi)) | (refine goesLA 6 Tryd.func11 #[] ?_; (with_reducible refine (L6awake.calls k  t972 _ A14.out).mono ?_); rintro e w16 ⟨rfl, hb⟩; refine ⟨_, rfl, ?_⟩; have n0_ := sB hb; revert n0_; clear HB; intro HB; (try clear hb); (try clear hb2); (try clear hk); (try clear hi)))
  go_ret
  exact ⟨zE, zH⟩
end Go.Proofs.YtggfilmdfpmbmaaDoor.QN
end
