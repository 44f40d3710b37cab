/-
  Steps and laws behind the statement that the claim's last text proves: the words of the walks, the walks of the Go functions (printed by a program of this session's own, then shortened by one), and what they compute. Conditions: stated at each theorem.
-/
import Derived.Test.YtggfilmdfpmbmaaDoorP0
import Derived.Test.YtggfilmdfpmbmaaDoorP4
section
namespace Go.Proofs.YtggfilmdfpmbmaaDoor.QN
open Go.RowKit Go.Proofs.YtggfilmdfpmbmaaDoorW.PrintWords Go.Proofs.YtggfilmdfpmbmaaDoorW.PrintLast Go.Proofs.YtggfilmdfpmbmaaDoorW.PrintMore
attribute [local go_sem] max2_int min2_int max_two min_two max_three min_three max_four min_four   -- for this text's walks alone
set_option linter.unusedVariables false
set_option linter.unusedSimpArgs false
structure S29 where
 f0 : Bool
 f1 : ByteArray
 f2 : ByteArray
def z29 : S29 := ⟨false, (⟨#[]⟩ : ByteArray), (⟨#[]⟩ : ByteArray)⟩
def k29 : Kd S29 := Kd.iso (Kd.pair Kd.bool (Kd.pair Kd.string Kd.string)) (fun x : S29 => (x.f0, x.f1, x.f2))
theorem k29_open {w : World} {x : S29} {cs : List Value} (h : k29.K w x cs) : cs = [.bool x.f0, .string x.f1, .string x.f2] := by
 obtain ⟨_, _, rfl, rfl, ⟨_, _, rfl, rfl, rfl⟩⟩ := h
 exact rfl
theorem k29_mk (w : World) (x : S29)  : k29.K w x [.bool x.f0, .string x.f1, .string x.f2] := ⟨[.bool x.f0], [.string x.f1, .string x.f2], rfl, rfl, ⟨[.string x.f1], [.string x.f2], rfl, rfl, rfl⟩⟩
theorem k29_mkM (w : World) (base : Nat) (ok : Nat → Prop) (x : S29)  : k29.M w base ok x [.bool x.f0, .string x.f1, .string x.f2] := ⟨[.bool x.f0], [.string x.f1, .string x.f2], rfl, rfl, ⟨[.string x.f1], [.string x.f2], rfl, rfl, rfl⟩⟩
structure S54 where
 f0 : Int
 f1 : S29
def z54 : S54 := ⟨(0 : Int), z29⟩
def k54 : Kd S54 := Kd.iso (Kd.pair (Kd.int .i64) k29) (fun x : S54 => (x.f0, x.f1))
theorem k54_open {w : World} {x : S54} {cs : List Value} (h : k54.K w x cs) : cs = [.int .i64 x.f0, .bool x.f1.f0, .string x.f1.f1, .string x.f1.f2] := by
 obtain ⟨_, _, rfl, rfl, s1⟩ := h
 obtain rfl := k29_open s1
 exact rfl
theorem k54_mk (w : World) (x : S54)  : k54.K w x [.int .i64 x.f0, .bool x.f1.f0, .string x.f1.f1, .string x.f1.f2] := ⟨[.int .i64 x.f0], [.bool x.f1.f0, .string x.f1.f1, .string x.f1.f2], rfl, rfl, (k29_mk w x.f1 )⟩
theorem k54_mkM (w : World) (base : Nat) (ok : Nat → Prop) (x : S54)  : k54.M w base ok x [.int .i64 x.f0, .bool x.f1.f0, .string x.f1.f1, .string x.f1.f2] := ⟨[.int .i64 x.f0], [.bool x.f1.f0, .string x.f1.f1, .string x.f1.f2], rfl, rfl, (k29_mkM w base ok x.f1 )⟩
def rd_T54 (xs : List S54) (i : Int) : S54 := xs.getD i.toNat z54
theorem at_T54 {w : World} {A : Option Addr} {n : Nat} {xs : List S54} (h : Kd.C k54 w A n xs) (i : Int) (h0 : 0 ≤ i) (h1 : i < n) : ∃ ad , A = some ad ∧ w.cell? (ad.add (i.toNat * 4)) = some (.int .i64 (rd_T54 xs i).f0) ∧ w.cell? ⟨(ad.add (i.toNat * 4)).block, (ad.add (i.toNat * 4)).off + 1, none⟩ = some (.bool (rd_T54 xs i).f1.f0) ∧ w.cell? ⟨(ad.add (i.toNat * 4)).block, (ad.add (i.toNat * 4)).off + 2, none⟩ = some (.string (rd_T54 xs i).f1.f1) ∧ w.cell? ⟨(ad.add (i.toNat * 4)).block, (ad.add (i.toNat * 4)).off + 3, none⟩ = some (.string (rd_T54 xs i).f1.f2) := by
 obtain ⟨ad, c, e, _, hK, hc0⟩ := Kd.C_get h z54 i h0 h1
 have hc : ∀ j u, c[j]? = some u → w.cell? (ad.add (i.toNat * 4 + j)) = some u := hc0
 obtain rfl := k54_open hK
 exact ⟨ad, e, hc 0 _ rfl, by rw [← add_field _ _ 1 (by omega)]; exact hc 1 _ rfl, by rw [← add_field _ _ 2 (by omega)]; exact hc 2 _ rfl, by rw [← add_field _ _ 3 (by omega)]; exact hc 3 _ rfl⟩
theorem eqA29 (d : Nat) (w : World) (x0 y0 : Bool) (x1 y1 : ByteArray) (x2 y2 : ByteArray) :
 (Op.equalIn (d + 2) 29 (.agg #[.bool x0, .string x1, .string x2]) (.agg #[.bool y0, .string y1, .string y2])).run Tryd.prog w = .ok (x0 == y0 && (x1.toList == y1.toList && (x2.toList == y2.toList))) w := by
 refine eqA_of Tryd.underlying29 (by kernel_rfl) ?_
 refine eqf_cons (by rfl) (by go_simp; rfl) (by go_simp; rfl) (by go_simp) ?_
 refine eqf_cons (by rfl) (by go_simp; rfl) (by go_simp; rfl) (by go_simp) ?_
 exact eqf_last (by rfl) (by go_simp; rfl) (by go_simp; rfl) (by go_simp)
end Go.Proofs.YtggfilmdfpmbmaaDoor.QN
end
section
namespace Go.Proofs.YtggfilmdfpmbmaaDoor.QN
open Go.RowKit Go.Proofs.YtggfilmdfpmbmaaDoorW.PrintWords Go.Proofs.YtggfilmdfpmbmaaDoorW.PrintLast Go.Proofs.YtggfilmdfpmbmaaDoorW.PrintMore
attribute [local go_sem] max2_int min2_int max_two min_two max_three min_three max_four min_four   -- for this text's walks alone
set_option linter.unusedVariables false
set_option linter.unusedSimpArgs false
attribute [local go_sem high] eqA29
def I1isDay.f (a0 : Int) : Option (Bool) := if a0 ≥ 0 then (some (decide (a0 ≤ 1048576))) else (some false)
set_option maxHeartbeats 8000000 in
set_option maxRecDepth 100000 in
theorem I1isDay.calls (a0 : Int) (r : Bool) (w : World) (h : I1isDay.f a0 = some r) :
 Calls Tryd.prog 29 #[.int .i64 a0] w fun e w' => e = .returned (.bool r) ∧ Drawn0 w w' := by
 have H : (if a0 ≥ 0 then (some (decide (a0 ≤ 1048576))) else (some false)) = some r := h
 clear h
 by_cases c2 : a0 ≥ 0
 ·rw [if_pos c2] at H
  have c2b0 := decide_eq_true c2
  clear c2
  obtain rfl := Option.some.inj H
  go_enter Tryd.func29, Tryd.ntmps29
  go_wp2
  go_ret
  exact ⟨by first | rfl | (simp; done) | (simp [*]; done), by repeat (first | exact Drawn0.refl _ | apply Drawn0.step)⟩
 ·rw [if_neg c2] at H
  have c2b0 := decide_eq_false c2
  clear c2
  obtain rfl := Option.some.inj H
  go_enter Tryd.func29, Tryd.ntmps29
  go_wp2
  go_ret
  exact ⟨by first | rfl | (simp; done) | (simp [*]; done), by repeat (first | exact Drawn0.refl _ | apply Drawn0.step)⟩
mutual
def I1Check.l0 : Nat → List (S54) → List (S54) → Int → Int → Option (Int)
 | 0, _, _, _, _ => none
 | k + 1, x0, x8, x9, x10 => if x10 < x9 then (if 0 ≤ x10 then (if x10 < (x8.length : Int) then ((I1isDay.f ((rd_T54 x8 x10).f0)).bind fun t780 => (if t780 = true then (if x10 > 0 then (if 0 ≤ (wrap64 (x10 - 1)) then (if (wrap64 (x10 - 1)) < (x0.length : Int) then (I1Check.j1 k x0 x8 x9 x10 (decide (((rd_T54 x8 x10).f0) ≤ ((rd_T54 x0 (wrap64 (x10 - 1))).f0))) ((rd_T54 x8 x10).f0) ((rd_T54 x8 x10).f1.f0) ((rd_T54 x8 x10).f1.f1) ((rd_T54 x8 x10).f1.f2)) else (none)) else (none)) else (I1Check.j1 k x0 x8 x9 x10 false ((rd_T54 x8 x10).f0) ((rd_T54 x8 x10).f1.f0) ((rd_T54 x8 x10).f1.f1) ((rd_T54 x8 x10).f1.f2))) else (some 1))) else (none)) else (none)) else (some 0)
def I1Check.j1 : Nat → List (S54) → List (S54) → Int → Int → Bool → Int → Bool → ByteArray → ByteArray → Option (Int)
 | 0, _, _, _, _, _, _, _, _, _ => none
 | k + 1, x0, x8, x9, x10, x20, x780000, x780001, x780002, x780003 => if x20 = true then (some 15) else ((Q1Sign.f k x780001 x780002 x780003).bind fun t782 => (if t782 < 0 then (some 7) else (I1Check.l0 k x0 x8 x9 (wrap64 (x10 + 1)))))
end
def I1Check.f (k : Nat) (l0 : List (S54)) : Option (Int) := if (l0.length : Int) > 64 then (some 2) else (I1Check.l0 k l0 l0 (l0.length : Int) 0)
set_option maxHeartbeats 8000000 in
set_option maxRecDepth 100000 in
theorem I1Check.calls (k : Nat) (A0 : Option Addr) (c0 : Nat) (l0 : List (S54)) (r : Int) (w : World) (hr0 : Kd.C k54 w A0 l0.length l0) (hc0 : l0.length ≤ c0) (h : I1Check.f k l0 = some r) :
 Calls Tryd.prog 12 #[.slice A0 l0.length c0] w fun e w' => e = .returned (.int .i64 r) ∧ Below w.heap.size w w' := by
 have hu54 := Tryd.underlying54
 have hu29 := Tryd.underlying29
 have HR0 := Aside0.mk hr0
 have HC0 := Aside0.mk hc0
 clear hr0 hc0
 have HB := Aside0.mk (Below.refl w.heap.size w)
 have H : (if (l0.length : Int) > 64 then (some 2) else (I1Check.l0 k l0 l0 (l0.length : Int) 0)) = some r := h
 clear h
 by_cases c2 : (l0.length : Int) > 64
 ·rw [if_pos c2] at H
  have c2b0 := decide_eq_true c2
  have c2b1 : decide (64 < l0.length) = true := decide_eq_true (by omega)
  clear c2
  obtain rfl := Option.some.inj H
  go_enter Tryd.func12, Tryd.ntmps12
  go_wp2
  repeat (go_quiet (fail); try go_wp2)
  go_ret
  exact ⟨zE, zH⟩
 ·rw [if_neg c2] at H
  have c2b0 := decide_eq_false c2
  have c2b1 : decide (64 < l0.length) = false := decide_eq_false (by omega)
  clear c2
  have H' := Aside0.mk H
  clear H
  go_enter Tryd.func12, Tryd.ntmps12
  go_wp2
  repeat (go_quiet (fail); try go_wp2)
  go_loopg [10] k (fun kq v10 w' => ∃ (x10_1 : Int), v10 = .int .i64 x10_1 ∧ Aside0 (I1Check.l0 kq l0 l0 (l0.length : Int) x10_1 = some r) ∧ Aside0 (kq ≤ k) ∧ Aside0 (Below w.heap.size w w'))
  case atStart => exact ⟨(0), zq1, H', ⟨Nat.le_refl _⟩, ⟨zH⟩⟩
  case round =>
   clear H'
   obtain ⟨x10_1, rfl, HA, HK1, HB⟩ := hrel
   cases gk with
   | zero => exact absurd HA.out (by simp [I1Check.l0])
   | succ k1 =>
    have H := HA.out
    clear HA
    simp only [I1Check.l0] at H
    by_cases c3 : x10_1 < (l0.length : Int)
    ·rw [if_pos c3] at H
     have c3b0 := decide_eq_true c3
     clear c3
     replace H := iteD H
     obtain ⟨c4b0, H⟩ := H
     replace H := iteD H
     obtain ⟨c5b0, H⟩ := H
     replace H := bS H
     obtain ⟨t780, A6, H⟩ := H
     by_cases c7 : t780 = true
     ·subst c7
      have H1 : (if x10_1 > 0 then (if 0 ≤ (wrap64 (x10_1 - 1)) then (if (wrap64 (x10_1 - 1)) < (l0.length : Int) then (I1Check.j1 k1 l0 l0 (l0.length : Int) x10_1 (decide (((rd_T54 l0 x10_1).f0) ≤ ((rd_T54 l0 (wrap64 (x10_1 - 1))).f0))) ((rd_T54 l0 x10_1).f0) ((rd_T54 l0 x10_1).f1.f0) ((rd_T54 l0 x10_1).f1.f1) ((rd_T54 l0 x10_1).f1.f2)) else (none)) else (none)) else (I1Check.j1 k1 l0 l0 (l0.length : Int) x10_1 false ((rd_T54 l0 x10_1).f0) ((rd_T54 l0 x10_1).f1.f0) ((rd_T54 l0 x10_1).f1.f1) ((rd_T54 l0 x10_1).f1.f2))) = some r := by rw [if_pos rfl] at H; exact H
      clear H
      have H := H1
      clear H1
      have HC8 := Aside0.mk H
      clear H
      have p778 : 0 ≤ (x10_1 : Int) := of_decide_eq_true zq0
      have q778 : x10_1 < (l0.length : Int) := of_decide_eq_true zq0
      obtain ⟨ad778, e778, hx778_0, hx778_1, hx778_2, hx778_3⟩ := at_T54 HR0.out x10_1 p778 q778
      cases e778
      (try replace hx778_0 := (HB.out.cell (World.block_lt_of_cell? w _ hx778_0)).trans hx778_0)
      (try replace hx778_1 := (HB.out.cell (World.block_lt_of_cell? w _ hx778_1)).trans hx778_1)
      (try replace hx778_2 := (HB.out.cell (World.block_lt_of_cell? w _ hx778_2)).trans hx778_2)
      (try replace hx778_3 := (HB.out.cell (World.block_lt_of_cell? w _ hx778_3)).trans hx778_3)
      replace p778 := eq_true p778
      replace q778 := eq_true q778
      go_upto_region 8 with (first | (refine box_evA 4 #[.int .i64 0, .bool false, .string (⟨#[]⟩ : ByteArray), .string (⟨#[]⟩ : ByteArray)] 54 ?_; intro gb779 hg w9 hbox hb; obtain ⟨n0_, n1_, n2_, n3_⟩ := bx4 w hbox hb hg; revert n0_ n1_ n2_ n3_; clear HB; intro HB BK779 GW779 GE779; clear hb hbox hg; have hcz10_0 := cB BK779 0 (.int .i64 0); have hcz10_1 := cB BK779 1 (.bool false); have hcz10_2 := cB BK779 2 (.string (⟨#[]⟩ : ByteArray)); have hcz10_3 := cB BK779 3 (.string (⟨#[]⟩ : ByteArray)); have hfz10_0 := fB BK779 0; have hfz10_1 := fB BK779 1; have hfz10_2 := fB BK779 2; have hfz10_3 := fB BK779 3) | (go_at_call 29; (with_reducible refine (I1isDay.calls ((rd_T54 l0 x10_1).f0) true _ A6.out).mono ?_); rintro e w' ⟨rfl, ⟨nd, rfl⟩⟩; (try first | exact ⟨rfl, _, World.drewN_drewN _ _ _⟩ | exact ⟨rfl, _, Eq.trans (World.drewN_drewN _ _ _) (congrArg (World.drewN _) (Nat.add_assoc _ _ _))⟩)))
      repeat (go_quiet (first | (refine box_evA 4 #[.int .i64 0, .bool false, .string (⟨#[]⟩ : ByteArray), .string (⟨#[]⟩ : ByteArray)] 54 ?_; intro gb779 hg w9 hbox hb; obtain ⟨n0_, n1_, n2_, n3_⟩ := bx4 w hbox hb hg; revert n0_ n1_ n2_ n3_; clear HB; intro HB BK779 GW779 GE779; clear hb hbox hg; have hcz10_0 := cB BK779 0 (.int .i64 0); have hcz10_1 := cB BK779 1 (.bool false); have hcz10_2 := cB BK779 2 (.string (⟨#[]⟩ : ByteArray)); have hcz10_3 := cB BK779 3 (.string (⟨#[]⟩ : ByteArray)); have hfz10_0 := fB BK779 0; have hfz10_1 := fB BK779 1; have hfz10_2 := fB BK779 2; have hfz10_3 := fB BK779 3) | (go_at_call 29; (with_reducible refine (I1isDay.calls ((rd_T54 l0 x10_1).f0) true _ A6.out).mono ?_); rintro e w' ⟨rfl, ⟨nd, rfl⟩⟩; (try first | exact ⟨rfl, _, World.drewN_drewN _ _ _⟩ | exact ⟨rfl, _, Eq.trans (World.drewN_drewN _ _ _) (congrArg (World.drewN _) (Nat.add_assoc _ _ _))⟩))); go_upto_region 8 with (first | (refine box_evA 4 #[.int .i64 0, .bool false, .string (⟨#[]⟩ : ByteArray), .string (⟨#[]⟩ : ByteArray)] 54 ?_; intro gb779 hg w9 hbox hb; obtain ⟨n0_, n1_, n2_, n3_⟩ := bx4 w hbox hb hg; revert n0_ n1_ n2_ n3_; clear HB; intro HB BK779 GW779 GE779; clear hb hbox hg; have hcz10_0 := cB BK779 0 (.int .i64 0); have hcz10_1 := cB BK779 1 (.bool false); have hcz10_2 := cB BK779 2 (.string (⟨#[]⟩ : ByteArray)); have hcz10_3 := cB BK779 3 (.string (⟨#[]⟩ : ByteArray)); have hfz10_0 := fB BK779 0; have hfz10_1 := fB BK779 1; have hfz10_2 := fB BK779 2; have hfz10_3 := fB BK779 3) | (go_at_call 29; (with_reducible refine (I1isDay.calls ((rd_T54 l0 x10_1).f0) true _ A6.out).mono ?_); rintro e w' ⟨rfl, ⟨nd, rfl⟩⟩; (try first | exact ⟨rfl, _, World.drewN_drewN _ _ _⟩ | exact ⟨rfl, _, Eq.trans (World.drewN_drewN _ _ _) (congrArg (World.drewN _) (Nat.add_assoc _ _ _))⟩))))
      (try simp only [Act.put, List.setIfInBounds_toArray, List.set_cons_zero, List.set_cons_succ])
      go_cut [20] (fun v20 wc => ∃ (kq : Nat) (x20_7 : Bool), v20 = .bool x20_7 ∧ Aside0 (I1Check.j1 kq l0 l0 (l0.length : Int) x10_1 x20_7 ((rd_T54 l0 x10_1).f0) ((rd_T54 l0 x10_1).f1.f0) ((rd_T54 l0 x10_1).f1.f1) ((rd_T54 l0 x10_1).f1.f2) = some r) ∧ Aside0 (kq ≤ k1) ∧ Aside0 (wc.heap[gb779]? = some (.cells #[.int .i64 ((rd_T54 l0 x10_1).f0), .bool ((rd_T54 l0 x10_1).f1.f0), .string ((rd_T54 l0 x10_1).f1.f1), .string ((rd_T54 l0 x10_1).f1.f2)] 54 (0, 0))) ∧ Aside0 (Below w.heap.size w wc))
      case first =>
       have H := HC8.out
       clear HC8
       by_cases c11 : x10_1 > 0
       ·rw [if_pos c11] at H
        have c11b0 := decide_eq_true c11
        clear c11
        (first | rw [c11b0] | (simp only [i64_w, i32_w]; rw [c11b0]) | rw [c11b1] | skip)
        obtain ⟨ji12, hji12, hji12w⟩ := jI (x10_1 - 1)
        first | rw [hji12] at H | simp only [hji12] at H
        replace H := iteD H
        obtain ⟨c13b0, H⟩ := H
        replace H := iteD H
        obtain ⟨c14b0, H⟩ := H
        have H' := Aside0.mk H
        clear H
        have hcz15_0 := cB BK779 0 (.int .i64 0)
        have hcz15_1 := cB BK779 1 (.bool false)
        have hcz15_2 := cB BK779 2 (.string (⟨#[]⟩ : ByteArray))
        have hcz15_3 := cB BK779 3 (.string (⟨#[]⟩ : ByteArray))
        have hfz15_0 := fB BK779 0
        have hfz15_1 := fB BK779 1
        have hfz15_2 := fB BK779 2
        have hfz15_3 := fB BK779 3
        have p781 : 0 ≤ ((ji12) : Int) := of_decide_eq_true zq0
        have q781 : (ji12) < (l0.length : Int) := of_decide_eq_true zq0
        obtain ⟨ad781, e781, hx781_0, hx781_1, hx781_2, hx781_3⟩ := at_T54 HR0.out (ji12) p781 q781
        obtain rfl : ad778 = ad781 := (by injection e781)
        have hn781_0 : ad778.block ≠ gb779 := Nat.ne_of_lt (Nat.lt_of_lt_of_le (by have := World.block_lt_of_cell? _ _ hx781_0; first | rwa [add_block] at this | exact this) GW779.out)
        have hn781_1 : ad778.block ≠ gb779 := Nat.ne_of_lt (Nat.lt_of_lt_of_le (by have := World.block_lt_of_cell? _ _ hx781_0; first | rwa [add_block] at this | exact this) GW779.out)
        have hn781_2 : ad778.block ≠ gb779 := Nat.ne_of_lt (Nat.lt_of_lt_of_le (by have := World.block_lt_of_cell? _ _ hx781_0; first | rwa [add_block] at this | exact this) GW779.out)
        have hn781_3 : ad778.block ≠ gb779 := Nat.ne_of_lt (Nat.lt_of_lt_of_le (by have := World.block_lt_of_cell? _ _ hx781_0; first | rwa [add_block] at this | exact this) GW779.out)
        (try replace hx781_0 := (HB.out.cell (World.block_lt_of_cell? w _ hx781_0)).trans hx781_0)
        (try replace hx781_1 := (HB.out.cell (World.block_lt_of_cell? w _ hx781_1)).trans hx781_1)
        (try replace hx781_2 := (HB.out.cell (World.block_lt_of_cell? w _ hx781_2)).trans hx781_2)
        (try replace hx781_3 := (HB.out.cell (World.block_lt_of_cell? w _ hx781_3)).trans hx781_3)
        replace hx781_0 := (cell_far (p := ⟨gb779, 0, none⟩) zq31 (.int .i64 ((rd_T54 l0 x10_1).f0))).trans hx781_0
        replace hx781_1 := (cell_far (p := ⟨gb779, 0, none⟩) zq31 (.int .i64 ((rd_T54 l0 x10_1).f0))).trans hx781_1
        replace hx781_2 := (cell_far (p := ⟨gb779, 0, none⟩) zq31 (.int .i64 ((rd_T54 l0 x10_1).f0))).trans hx781_2
        replace hx781_3 := (cell_far (p := ⟨gb779, 0, none⟩) zq31 (.int .i64 ((rd_T54 l0 x10_1).f0))).trans hx781_3
        replace hx781_0 := (cell_far (p := ⟨gb779, 1, none⟩) zq32 (.bool ((rd_T54 l0 x10_1).f1.f0))).trans hx781_0
        replace hx781_1 := (cell_far (p := ⟨gb779, 1, none⟩) zq32 (.bool ((rd_T54 l0 x10_1).f1.f0))).trans hx781_1
        replace hx781_2 := (cell_far (p := ⟨gb779, 1, none⟩) zq32 (.bool ((rd_T54 l0 x10_1).f1.f0))).trans hx781_2
        replace hx781_3 := (cell_far (p := ⟨gb779, 1, none⟩) zq32 (.bool ((rd_T54 l0 x10_1).f1.f0))).trans hx781_3
        replace hx781_0 := (cell_far (p := ⟨gb779, 2, none⟩) zq33 (.string ((rd_T54 l0 x10_1).f1.f1))).trans hx781_0
        replace hx781_1 := (cell_far (p := ⟨gb779, 2, none⟩) zq33 (.string ((rd_T54 l0 x10_1).f1.f1))).trans hx781_1
        replace hx781_2 := (cell_far (p := ⟨gb779, 2, none⟩) zq33 (.string ((rd_T54 l0 x10_1).f1.f1))).trans hx781_2
        replace hx781_3 := (cell_far (p := ⟨gb779, 2, none⟩) zq33 (.string ((rd_T54 l0 x10_1).f1.f1))).trans hx781_3
        replace hx781_0 := (cell_far (p := ⟨gb779, 3, none⟩) zq34 (.string ((rd_T54 l0 x10_1).f1.f2))).trans hx781_0
        replace hx781_1 := (cell_far (p := ⟨gb779, 3, none⟩) zq34 (.string ((rd_T54 l0 x10_1).f1.f2))).trans hx781_1
        replace hx781_2 := (cell_far (p := ⟨gb779, 3, none⟩) zq34 (.string ((rd_T54 l0 x10_1).f1.f2))).trans hx781_2
        replace hx781_3 := (cell_far (p := ⟨gb779, 3, none⟩) zq34 (.string ((rd_T54 l0 x10_1).f1.f2))).trans hx781_3
        (try have hy781_0 := fun (n_ : Nat) => (show ((((((w9.drewN n_).setCell ⟨gb779, 0, none⟩ (.int .i64 ((rd_T54 l0 x10_1).f0))).setCell ⟨gb779, 1, none⟩ (.bool ((rd_T54 l0 x10_1).f1.f0))).setCell ⟨gb779, 2, none⟩ (.string ((rd_T54 l0 x10_1).f1.f1))).setCell ⟨gb779, 3, none⟩ (.string ((rd_T54 l0 x10_1).f1.f2)))).cell? _ = some _ from hx781_0))
        (try have hy781_1 := fun (n_ : Nat) => (show ((((((w9.drewN n_).setCell ⟨gb779, 0, none⟩ (.int .i64 ((rd_T54 l0 x10_1).f0))).setCell ⟨gb779, 1, none⟩ (.bool ((rd_T54 l0 x10_1).f1.f0))).setCell ⟨gb779, 2, none⟩ (.string ((rd_T54 l0 x10_1).f1.f1))).setCell ⟨gb779, 3, none⟩ (.string ((rd_T54 l0 x10_1).f1.f2)))).cell? _ = some _ from hx781_1))
        (try have hy781_2 := fun (n_ : Nat) => (show ((((((w9.drewN n_).setCell ⟨gb779, 0, none⟩ (.int .i64 ((rd_T54 l0 x10_1).f0))).setCell ⟨gb779, 1, none⟩ (.bool ((rd_T54 l0 x10_1).f1.f0))).setCell ⟨gb779, 2, none⟩ (.string ((rd_T54 l0 x10_1).f1.f1))).setCell ⟨gb779, 3, none⟩ (.string ((rd_T54 l0 x10_1).f1.f2)))).cell? _ = some _ from hx781_2))
        (try have hy781_3 := fun (n_ : Nat) => (show ((((((w9.drewN n_).setCell ⟨gb779, 0, none⟩ (.int .i64 ((rd_T54 l0 x10_1).f0))).setCell ⟨gb779, 1, none⟩ (.bool ((rd_T54 l0 x10_1).f1.f0))).setCell ⟨gb779, 2, none⟩ (.string ((rd_T54 l0 x10_1).f1.f1))).setCell ⟨gb779, 3, none⟩ (.string ((rd_T54 l0 x10_1).f1.f2)))).cell? _ = some _ from hx781_3))
        clear hn781_0 hn781_1 hn781_2 hn781_3
        replace p781 := eq_true p781
        replace q781 := eq_true q781
        go_wp2
        repeat (go_quiet (fail); try go_wp2)
        go_meet
        case rel => exact ⟨_, (decide (((rd_T54 l0 x10_1).f0) ≤ ((rd_T54 l0 (ji12)).f0))), (by first | rfl | (simp; done) | (simp only [← hji12] <;> (first | rfl | simp)) | (simp [*]; done)), H', ⟨by have := HK1.out; first | omega | exact Nat.le_refl _⟩, ⟨bC BK779⟩, ⟨zH⟩⟩
       ·rw [if_neg c11] at H
        have c11b0 := decide_eq_false c11
        clear c11
        (first | rw [c11b0] | (simp only [i64_w, i32_w]; rw [c11b0]) | rw [c11b1] | skip)
        have H' := Aside0.mk H
        clear H
        go_wp2
        repeat (go_quiet (fail); try go_wp2)
        go_meet
        case rel => exact ⟨_, (false), zq1, H', ⟨by have := HK1.out; first | omega | exact Nat.le_refl _⟩, ⟨bC BK779⟩, ⟨zH⟩⟩
      case rest =>
       clear HC8
       obtain ⟨kq, x20_7, rfl, HA, HJ7, BK779, HB⟩ := hcut
       cases kq with
       | zero => exact absurd HA.out (by simp [I1Check.j1])
       | succ kj7 =>
        have H := HA.out
        clear HA
        simp only [I1Check.j1] at H
        by_cases c16 : x20_7 = true
        ·subst c16
         have H1 : (some 15) = some r := by rw [if_pos rfl] at H; exact H
         clear H
         have H := H1
         clear H1
         obtain rfl := Option.some.inj H
         go_wp2
         repeat (go_quiet (fail); try go_wp2)
         go_ret
         exact ⟨zE, zH⟩
        ·replace c16 := Bool.eq_false_iff.mpr c16
         subst c16
         have H1 : ((Q1Sign.f kj7 ((rd_T54 l0 x10_1).f1.f0) ((rd_T54 l0 x10_1).f1.f1) ((rd_T54 l0 x10_1).f1.f2)).bind fun t782 => (if t782 < 0 then (some 7) else (I1Check.l0 kj7 l0 l0 (l0.length : Int) (wrap64 (x10_1 + 1))))) = some r := by rw [if_neg (show ¬ (false = true) by decide)] at H; exact H
         clear H
         have H := H1
         clear H1
         replace H := bS H
         obtain ⟨t782, A17, H⟩ := H
         by_cases c18 : t782 < 0
         ·rw [if_pos c18] at H
          have c18b0 := decide_eq_true c18
          clear c18
          obtain rfl := Option.some.inj H
          have hcz19_0 := cB BK779 0 (.int .i64 ((rd_T54 l0 x10_1).f0))
          have hcz19_1 := cB BK779 1 (.bool ((rd_T54 l0 x10_1).f1.f0))
          have hcz19_2 := cB BK779 2 (.string ((rd_T54 l0 x10_1).f1.f1))
          have hcz19_3 := cB BK779 3 (.string ((rd_T54 l0 x10_1).f1.f2))
          have hfz19_0 := fB BK779 0
          have hfz19_1 := fB BK779 1
          have hfz19_2 := fB BK779 2
          have hfz19_3 := fB BK779 3
          go_wp2_with (first | (go_at_call 30; (with_reducible refine (Q1Sign.calls kj7 ((rd_T54 l0 x10_1).f1.f0) ((rd_T54 l0 x10_1).f1.f1) ((rd_T54 l0 x10_1).f1.f2) t782 _ A17.out).mono ?_); rintro e w20 ⟨rfl, hb⟩; have n0_ := bB BK779 hb; have n1_ := sB hb; revert n0_ n1_; clear BK779 HB; intro BK779 HB; (try clear hb); (try clear hb2); (try clear hk); (try clear hi)))
          repeat (go_quiet (first | (go_at_call 30; (with_reducible refine (Q1Sign.calls kj7 ((rd_T54 l0 x10_1).f1.f0) ((rd_T54 l0 x10_1).f1.f1) ((rd_T54 l0 x10_1).f1.f2) t782 _ A17.out).mono ?_); rintro e w20 ⟨rfl, hb⟩; have n0_ := bB BK779 hb; have n1_ := sB hb; revert n0_ n1_; clear BK779 HB; intro BK779 HB; (try clear hb); (try clear hb2); (try clear hk); (try clear hi))); try go_wp2_with (first | (go_at_call 30; (with_reducible refine (Q1Sign.calls kj7 ((rd_T54 l0 x10_1).f1.f0) ((rd_T54 l0 x10_1).f1.f1) ((rd_T54 l0 x10_1).f1.f2) t782 _ A17.out).mono ?_); rintro e w20 ⟨rfl, hb⟩; have n0_ := bB BK779 hb; have n1_ := sB hb; revert n0_ n1_; clear BK779 HB; intro BK779 HB; (try clear hb); (try clear hb2); (try clear hk); (try clear hi))))
          go_ret
          exact ⟨zE, zH⟩
         ·rw [if_neg c18] at H
          have c18b0 := decide_eq_false c18
          clear c18
          have H' := Aside0.mk H
          clear H
          have hcz21_0 := cB BK779 0 (.int .i64 ((rd_T54 l0 x10_1).f0))
          have hcz21_1 := cB BK779 1 (.bool ((rd_T54 l0 x10_1).f1.f0))
          have hcz21_2 := cB BK779 2 (.string ((rd_T54 l0 x10_1).f1.f1))
          have hcz21_3 := cB BK779 3 (.string ((rd_T54 l0 x10_1).f1.f2))
          have hfz21_0 := fB BK779 0
          have hfz21_1 := fB BK779 1
          have hfz21_2 := fB BK779 2
          have hfz21_3 := fB BK779 3
          go_wp2_with (first | (go_at_call 30; (with_reducible refine (Q1Sign.calls kj7 ((rd_T54 l0 x10_1).f1.f0) ((rd_T54 l0 x10_1).f1.f1) ((rd_T54 l0 x10_1).f1.f2) t782 _ A17.out).mono ?_); rintro e w22 ⟨rfl, hb⟩; have n0_ := bB BK779 hb; have n1_ := sB hb; revert n0_ n1_; clear BK779 HB; intro BK779 HB; (try clear hb); (try clear hb2); (try clear hk); (try clear hi)))
          repeat (go_quiet (first | (go_at_call 30; (with_reducible refine (Q1Sign.calls kj7 ((rd_T54 l0 x10_1).f1.f0) ((rd_T54 l0 x10_1).f1.f1) ((rd_T54 l0 x10_1).f1.f2) t782 _ A17.out).mono ?_); rintro e w22 ⟨rfl, hb⟩; have n0_ := bB BK779 hb; have n1_ := sB hb; revert n0_ n1_; clear BK779 HB; intro BK779 HB; (try clear hb); (try clear hb2); (try clear hk); (try clear hi))); try go_wp2_with (first | (go_at_call 30; (with_reducible refine (Q1Sign.calls kj7 ((rd_T54 l0 x10_1).f1.f0) ((rd_T54 l0 x10_1).f1.f1) ((rd_T54 l0 x10_1).f1.f2) t782 _ A17.out).mono ?_); rintro e w22 ⟨rfl, hb⟩; have n0_ := bB BK779 hb; have n1_ := sB hb; revert n0_ n1_; clear BK779 HB; intro BK779 HB; (try clear hb); (try clear hb2); (try clear hk); (try clear hi))))
          go_roundg kj7
          case measure => have := HK1.out; have := HJ7.out; omega
          case rel => exact ⟨(wrap64 (x10_1 + 1)), zq1, H', ⟨by have := HK1.out; have := HJ7.out; omega⟩, ⟨zH⟩⟩
     ·replace c7 := Bool.eq_false_iff.mpr c7
      subst c7
      have H1 : (some 1) = some r := by rw [if_neg (show ¬ (false = true) by decide)] at H; exact H
      clear H
      have H := H1
      clear H1
      obtain rfl := Option.some.inj H
      have p778 : 0 ≤ (x10_1 : Int) := of_decide_eq_true zq0
      have q778 : x10_1 < (l0.length : Int) := of_decide_eq_true zq0
      obtain ⟨ad778, e778, hx778_0, hx778_1, hx778_2, hx778_3⟩ := at_T54 HR0.out x10_1 p778 q778
      cases e778
      (try replace hx778_0 := (HB.out.cell (World.block_lt_of_cell? w _ hx778_0)).trans hx778_0)
      (try replace hx778_1 := (HB.out.cell (World.block_lt_of_cell? w _ hx778_1)).trans hx778_1)
      (try replace hx778_2 := (HB.out.cell (World.block_lt_of_cell? w _ hx778_2)).trans hx778_2)
      (try replace hx778_3 := (HB.out.cell (World.block_lt_of_cell? w _ hx778_3)).trans hx778_3)
      replace p778 := eq_true p778
      replace q778 := eq_true q778
      go_wp2_with (first | (refine box_evA 4 #[.int .i64 0, .bool false, .string (⟨#[]⟩ : ByteArray), .string (⟨#[]⟩ : ByteArray)] 54 ?_; intro gb779 hg w23 hbox hb; obtain ⟨n0_, n1_, n2_, n3_⟩ := bx4 w hbox hb hg; revert n0_ n1_ n2_ n3_; clear HB; intro HB BK779 GW779 GE779; clear hb hbox hg; have hcz24_0 := cB BK779 0 (.int .i64 0); have hcz24_1 := cB BK779 1 (.bool false); have hcz24_2 := cB BK779 2 (.string (⟨#[]⟩ : ByteArray)); have hcz24_3 := cB BK779 3 (.string (⟨#[]⟩ : ByteArray)); have hfz24_0 := fB BK779 0; have hfz24_1 := fB BK779 1; have hfz24_2 := fB BK779 2; have hfz24_3 := fB BK779 3) | (go_at_call 29; (with_reducible refine (I1isDay.calls ((rd_T54 l0 x10_1).f0) false _ A6.out).mono ?_); rintro e w' ⟨rfl, ⟨nd, rfl⟩⟩; (try first | exact ⟨rfl, _, World.drewN_drewN _ _ _⟩ | exact ⟨rfl, _, Eq.trans (World.drewN_drewN _ _ _) (congrArg (World.drewN _) (Nat.add_assoc _ _ _))⟩)))
      repeat (go_quiet (first | (refine box_evA 4 #[.int .i64 0, .bool false, .string (⟨#[]⟩ : ByteArray), .string (⟨#[]⟩ : ByteArray)] 54 ?_; intro gb779 hg w23 hbox hb; obtain ⟨n0_, n1_, n2_, n3_⟩ := bx4 w hbox hb hg; revert n0_ n1_ n2_ n3_; clear HB; intro HB BK779 GW779 GE779; clear hb hbox hg; have hcz24_0 := cB BK779 0 (.int .i64 0); have hcz24_1 := cB BK779 1 (.bool false); have hcz24_2 := cB BK779 2 (.string (⟨#[]⟩ : ByteArray)); have hcz24_3 := cB BK779 3 (.string (⟨#[]⟩ : ByteArray)); have hfz24_0 := fB BK779 0; have hfz24_1 := fB BK779 1; have hfz24_2 := fB BK779 2; have hfz24_3 := fB BK779 3) | (go_at_call 29; (with_reducible refine (I1isDay.calls ((rd_T54 l0 x10_1).f0) false _ A6.out).mono ?_); rintro e w' ⟨rfl, ⟨nd, rfl⟩⟩; (try first | exact ⟨rfl, _, World.drewN_drewN _ _ _⟩ | exact ⟨rfl, _, Eq.trans (World.drewN_drewN _ _ _) (congrArg (World.drewN _) (Nat.add_assoc _ _ _))⟩))); try go_wp2_with (first | (refine box_evA 4 #[.int .i64 0, .bool false, .string (⟨#[]⟩ : ByteArray), .string (⟨#[]⟩ : ByteArray)] 54 ?_; intro gb779 hg w23 hbox hb; obtain ⟨n0_, n1_, n2_, n3_⟩ := bx4 w hbox hb hg; revert n0_ n1_ n2_ n3_; clear HB; intro HB BK779 GW779 GE779; clear hb hbox hg; have hcz24_0 := cB BK779 0 (.int .i64 0); have hcz24_1 := cB BK779 1 (.bool false); have hcz24_2 := cB BK779 2 (.string (⟨#[]⟩ : ByteArray)); have hcz24_3 := cB BK779 3 (.string (⟨#[]⟩ : ByteArray)); have hfz24_0 := fB BK779 0; have hfz24_1 := fB BK779 1; have hfz24_2 := fB BK779 2; have hfz24_3 := fB BK779 3) | (go_at_call 29; (with_reducible refine (I1isDay.calls ((rd_T54 l0 x10_1).f0) false _ A6.out).mono ?_); rintro e w' ⟨rfl, ⟨nd, rfl⟩⟩; (try first | exact ⟨rfl, _, World.drewN_drewN _ _ _⟩ | exact ⟨rfl, _, Eq.trans (World.drewN_drewN _ _ _) (congrArg (World.drewN _) (Nat.add_assoc _ _ _))⟩))))
      go_ret
      exact ⟨zE, zH⟩
    ·rw [if_neg c3] at H
     have c3b0 := decide_eq_false c3
     clear c3
     obtain rfl := Option.some.inj H
     go_wp2
     repeat (go_quiet (fail); try go_wp2)
     go_ret
     exact ⟨zE, zH⟩
def I1check.j0 : Nat → Int → Int → Bool → Bool → ByteArray → ByteArray → Option (Int)
 | 0, _, _, _, _, _, _ => none
 | k + 1, x2, x3, x20, x784000, x784001, x784002 => if x20 = true then (some 1) else (if x3 < x2 then (some 15) else ((Q1Sign.f k x784000 x784001 x784002).bind fun t787 => (if t787 < 0 then (some 7) else (some 0))))
def I1check.f (k : Nat) (a0_0 : Bool) (a0_1 : ByteArray) (a0_2 : ByteArray) (l1 : List (S54)) (a2 : Int) (a3 : Int) (a4 : Int) (a5 : Int) : Option (Int) := (I1Check.f k l1).bind fun t784 => (if t784 = 0 then ((I1isDay.f a2).bind fun t785 => (if t785 = true then ((I1isDay.f a3).bind fun t786 => (if t786 = true then (if a4 = 360 then (I1check.j0 k a2 a3 (decide (a5 < 1)) a0_0 a0_1 a0_2) else (if a4 = 365 then (I1check.j0 k a2 a3 (decide (a5 < 1)) a0_0 a0_1 a0_2) else (I1check.j0 k a2 a3 true a0_0 a0_1 a0_2))) else (I1check.j0 k a2 a3 true a0_0 a0_1 a0_2))) else (I1check.j0 k a2 a3 true a0_0 a0_1 a0_2))) else (some t784))
set_option maxHeartbeats 8000000 in
set_option maxRecDepth 100000 in
theorem I1check.calls (k : Nat) (a0_0 : Bool) (a0_1 : ByteArray) (a0_2 : ByteArray) (A1 : Option Addr) (c1 : Nat) (l1 : List (S54)) (a2 : Int) (a3 : Int) (a4 : Int) (a5 : Int) (r : Int) (w : World) (hr1 : Kd.C k54 w A1 l1.length l1) (hc1 : l1.length ≤ c1) (h : I1check.f k a0_0 a0_1 a0_2 l1 a2 a3 a4 a5 = some r) :
 Calls Tryd.prog 33 #[.agg #[.bool a0_0, .string a0_1, .string a0_2], .slice A1 l1.length c1, .int .i64 a2, .int .i64 a3, .int .i64 a4, .int .i64 a5] w fun e w' => e = .returned (.int .i64 r) ∧ Below w.heap.size w w' := by
 have hu29 := Tryd.underlying29
 have HR1 := Aside0.mk hr1
 have HC1 := Aside0.mk hc1
 clear hr1 hc1
 have HB := Aside0.mk (Below.refl w.heap.size w)
 have H : ((I1Check.f k l1).bind fun t784 => (if t784 = 0 then ((I1isDay.f a2).bind fun t785 => (if t785 = true then ((I1isDay.f a3).bind fun t786 => (if t786 = true then (if a4 = 360 then (I1check.j0 k a2 a3 (decide (a5 < 1)) a0_0 a0_1 a0_2) else (if a4 = 365 then (I1check.j0 k a2 a3 (decide (a5 < 1)) a0_0 a0_1 a0_2) else (I1check.j0 k a2 a3 true a0_0 a0_1 a0_2))) else (I1check.j0 k a2 a3 true a0_0 a0_1 a0_2))) else (I1check.j0 k a2 a3 true a0_0 a0_1 a0_2))) else (some t784))) = some r := h
 clear h
 replace H := bS H
 obtain ⟨t784, A7, H⟩ := H
 by_cases c8 : t784 = 0
 ·rw [if_pos c8] at H
  have c8b0 := beq_iff_eq.mpr c8
  have c8b1 : (t784 != 0) = false := bne_eq_false_iff_eq.mpr c8
  clear c8
  have HC9 := Aside0.mk H
  clear H
  go_enter Tryd.func33, Tryd.ntmps33
  go_upto_region 4 with (first | (refine box_evA 6 #[.bool a0_0, .string a0_1, .string a0_2] 29 ?_; intro gb783 hg w10 hbox hb; obtain ⟨n0_, n1_, n2_, n3_⟩ := bx4 w hbox hb hg; revert n0_ n1_ n2_ n3_; clear HB; intro HB BK783 GW783 GE783; clear hb hbox hg) | (refine goesLA 15 Tryd.func12 #[.slice A1 l1.length c1] ?_; (with_reducible refine (I1Check.calls k _ _ l1 t784 _ ?side1 ?side2 A7.out).mono ?_); (case side1 => exact sC (Kd.C_below HR1.out HB.out)); (case side2 => exact HC1.out); rintro e w11 ⟨rfl, hb⟩; refine ⟨_, rfl, ?_⟩; have n0_ := bB BK783 hb; have n1_ := sB hb; revert n0_ n1_; clear BK783 HB; intro BK783 HB; (try clear hb); (try clear hb2); (try clear hk); (try clear hi)))
  (try simp only [Act.put, List.setIfInBounds_toArray, List.set_cons_zero, List.set_cons_succ])
  go_cut [20] (fun v20 wc => ∃ (kq : Nat) (x20_8 : Bool), v20 = .bool x20_8 ∧ Aside0 (I1check.j0 kq a2 a3 x20_8 a0_0 a0_1 a0_2 = some r) ∧ Aside0 (kq ≤ k) ∧ Aside0 (wc.heap[gb783]? = some (.cells #[.bool a0_0, .string a0_1, .string a0_2] 29 (0, 0))) ∧ Aside0 (Below w.heap.size w wc))
  case first =>
   have H := HC9.out
   clear HC9
   replace H := bS H
   obtain ⟨t785, A12, H⟩ := H
   by_cases c13 : t785 = true
   ·subst c13
    have H1 : ((I1isDay.f a3).bind fun t786 => (if t786 = true then (if a4 = 360 then (I1check.j0 k a2 a3 (decide (a5 < 1)) a0_0 a0_1 a0_2) else (if a4 = 365 then (I1check.j0 k a2 a3 (decide (a5 < 1)) a0_0 a0_1 a0_2) else (I1check.j0 k a2 a3 true a0_0 a0_1 a0_2))) else (I1check.j0 k a2 a3 true a0_0 a0_1 a0_2))) = some r := by rw [if_pos rfl] at H; exact H
    clear H
    have H := H1
    clear H1
    replace H := bS H
    obtain ⟨t786, A14, H⟩ := H
    by_cases c15 : t786 = true
    ·subst c15
     have H1 : (if a4 = 360 then (I1check.j0 k a2 a3 (decide (a5 < 1)) a0_0 a0_1 a0_2) else (if a4 = 365 then (I1check.j0 k a2 a3 (decide (a5 < 1)) a0_0 a0_1 a0_2) else (I1check.j0 k a2 a3 true a0_0 a0_1 a0_2))) = some r := by rw [if_pos rfl] at H; exact H
     clear H
     have H := H1
     clear H1
     by_cases c16 : a4 = 360
     ·rw [if_pos c16] at H
      have c16b0 := beq_iff_eq.mpr c16
      have c16b1 : (a4 != 360) = false := bne_eq_false_iff_eq.mpr c16
      clear c16
      (first | rw [c16b0] | (simp only [i64_w, i32_w]; rw [c16b0]) | rw [c16b1] | skip)
      have H' := Aside0.mk H
      clear H
      go_wp2_with (first | (refine goesLA 22 Tryd.func29 #[.int .i64 a2] ?_; (with_reducible refine (I1isDay.calls a2 true _ A12.out).mono ?_); rintro e w' ⟨rfl, ⟨nd, rfl⟩⟩; refine ⟨_, rfl, ?_⟩) | (go_at_call 29; (with_reducible refine (I1isDay.calls a3 true _ A14.out).mono ?_); rintro e w' ⟨rfl, ⟨nd, rfl⟩⟩))
      go_meet
      case rel => exact ⟨_, (decide (a5 < 1)), zq1, H', ⟨by first | omega | exact Nat.le_refl _⟩, ⟨bC BK783⟩, ⟨zH⟩⟩
     ·rw [if_neg c16] at H
      have c16b0 := beq_eq_false_iff_ne.mpr c16
      have c16b1 := bne_iff_ne.mpr c16
      (first | rw [c16b0] | (simp only [i64_w, i32_w]; rw [c16b0]) | rw [c16b1] | skip)
      by_cases c17 : a4 = 365
      ·rw [if_pos c17] at H
       have c17b0 := beq_iff_eq.mpr c17
       have c17b1 : (a4 != 365) = false := bne_eq_false_iff_eq.mpr c17
       clear c17
       have H' := Aside0.mk H
       clear H
       go_wp2_with (first | (refine goesLA 22 Tryd.func29 #[.int .i64 a2] ?_; (with_reducible refine (I1isDay.calls a2 true _ A12.out).mono ?_); rintro e w' ⟨rfl, ⟨nd, rfl⟩⟩; refine ⟨_, rfl, ?_⟩) | (go_at_call 29; (with_reducible refine (I1isDay.calls a3 true _ A14.out).mono ?_); rintro e w' ⟨rfl, ⟨nd, rfl⟩⟩))
       go_meet
       case rel => exact ⟨_, (decide (a5 < 1)), zq1, H', ⟨by first | omega | exact Nat.le_refl _⟩, ⟨bC BK783⟩, ⟨zH⟩⟩
      ·rw [if_neg c17] at H
       have c17b0 := beq_eq_false_iff_ne.mpr c17
       have c17b1 := bne_iff_ne.mpr c17
       have H' := Aside0.mk H
       clear H
       go_wp2_with (first | (refine goesLA 22 Tryd.func29 #[.int .i64 a2] ?_; (with_reducible refine (I1isDay.calls a2 true _ A12.out).mono ?_); rintro e w' ⟨rfl, ⟨nd, rfl⟩⟩; refine ⟨_, rfl, ?_⟩) | (go_at_call 29; (with_reducible refine (I1isDay.calls a3 true _ A14.out).mono ?_); rintro e w' ⟨rfl, ⟨nd, rfl⟩⟩))
       go_meet
       case rel => exact ⟨_, (true), zq1, H', ⟨by first | omega | exact Nat.le_refl _⟩, ⟨bC BK783⟩, ⟨zH⟩⟩
    ·replace c15 := Bool.eq_false_iff.mpr c15
     subst c15
     have H1 : (I1check.j0 k a2 a3 true a0_0 a0_1 a0_2) = some r := by rw [if_neg (show ¬ (false = true) by decide)] at H; exact H
     clear H
     have H := H1
     clear H1
     have H' := Aside0.mk H
     clear H
     go_wp2_with (first | (refine goesLA 22 Tryd.func29 #[.int .i64 a2] ?_; (with_reducible refine (I1isDay.calls a2 true _ A12.out).mono ?_); rintro e w' ⟨rfl, ⟨nd, rfl⟩⟩; refine ⟨_, rfl, ?_⟩) | (go_at_call 29; (with_reducible refine (I1isDay.calls a3 false _ A14.out).mono ?_); rintro e w' ⟨rfl, ⟨nd, rfl⟩⟩))
     go_meet
     case rel => exact ⟨_, (true), zq1, H', ⟨by first | omega | exact Nat.le_refl _⟩, ⟨bC BK783⟩, ⟨zH⟩⟩
   ·replace c13 := Bool.eq_false_iff.mpr c13
    subst c13
    have H1 : (I1check.j0 k a2 a3 true a0_0 a0_1 a0_2) = some r := by rw [if_neg (show ¬ (false = true) by decide)] at H; exact H
    clear H
    have H := H1
    clear H1
    have H' := Aside0.mk H
    clear H
    go_wp2_with (first | (refine goesLA 22 Tryd.func29 #[.int .i64 a2] ?_; (with_reducible refine (I1isDay.calls a2 false _ A12.out).mono ?_); rintro e w' ⟨rfl, ⟨nd, rfl⟩⟩; refine ⟨_, rfl, ?_⟩))
    go_meet
    case rel => exact ⟨_, (true), zq1, H', ⟨by first | omega | exact Nat.le_refl _⟩, ⟨bC BK783⟩, ⟨zH⟩⟩
  case rest =>
   clear HC9
   obtain ⟨kq, x20_8, rfl, HA, HJ8, BK783, HB⟩ := hcut
   cases kq with
   | zero => exact absurd HA.out (by simp [I1check.j0])
   | succ kj8 =>
    have H := HA.out
    clear HA
    simp only [I1check.j0] at H
    by_cases c18 : x20_8 = true
    ·subst c18
     have H1 : (some 1) = some r := by rw [if_pos rfl] at H; exact H
     clear H
     have H := H1
     clear H1
     obtain rfl := Option.some.inj H
     go_wp2
     go_ret
     exact ⟨zE, zH⟩
    ·replace c18 := Bool.eq_false_iff.mpr c18
     subst c18
     have H1 : (if a3 < a2 then (some 15) else ((Q1Sign.f kj8 a0_0 a0_1 a0_2).bind fun t787 => (if t787 < 0 then (some 7) else (some 0)))) = some r := by rw [if_neg (show ¬ (false = true) by decide)] at H; exact H
     clear H
     have H := H1
     clear H1
     by_cases c19 : a3 < a2
     ·rw [if_pos c19] at H
      have c19b0 := decide_eq_true c19
      clear c19
      obtain rfl := Option.some.inj H
      go_wp2
      go_ret
      exact ⟨zE, zH⟩
     ·rw [if_neg c19] at H
      have c19b0 := decide_eq_false c19
      clear c19
      replace H := bS H
      obtain ⟨t787, A20, H⟩ := H
      by_cases c21 : t787 < 0
      ·rw [if_pos c21] at H
       have c21b0 := decide_eq_true c21
       clear c21
       obtain rfl := Option.some.inj H
       have hcz22_0 := cB BK783 0 (.bool a0_0)
       have hcz22_1 := cB BK783 1 (.string a0_1)
       have hcz22_2 := cB BK783 2 (.string a0_2)
       have hfz22_0 := fB BK783 0
       have hfz22_1 := fB BK783 1
       have hfz22_2 := fB BK783 2
       go_wp2_with (first | (refine goesLA 47 Tryd.func30 #[.agg #[.bool a0_0, .string a0_1, .string a0_2]] ?_; (with_reducible refine (Q1Sign.calls kj8 a0_0 a0_1 a0_2 t787 _ A20.out).mono ?_); rintro e w23 ⟨rfl, hb⟩; refine ⟨_, rfl, ?_⟩; have n0_ := bB BK783 hb; have n1_ := sB hb; revert n0_ n1_; clear BK783 HB; intro BK783 HB; (try clear hb); (try clear hb2); (try clear hk); (try clear hi)))
       go_ret
       exact ⟨zE, zH⟩
      ·rw [if_neg c21] at H
       have c21b0 := decide_eq_false c21
       clear c21
       obtain rfl := Option.some.inj H
       have hcz24_0 := cB BK783 0 (.bool a0_0)
       have hcz24_1 := cB BK783 1 (.string a0_1)
       have hcz24_2 := cB BK783 2 (.string a0_2)
       have hfz24_0 := fB BK783 0
       have hfz24_1 := fB BK783 1
       have hfz24_2 := fB BK783 2
       go_wp2_with (first | (refine goesLA 47 Tryd.func30 #[.agg #[.bool a0_0, .string a0_1, .string a0_2]] ?_; (with_reducible refine (Q1Sign.calls kj8 a0_0 a0_1 a0_2 t787 _ A20.out).mono ?_); rintro e w25 ⟨rfl, hb⟩; refine ⟨_, rfl, ?_⟩; have n0_ := bB BK783 hb; have n1_ := sB hb; revert n0_ n1_; clear BK783 HB; intro BK783 HB; (try clear hb); (try clear hb2); (try clear hk); (try clear hi)))
       go_ret
       exact ⟨zE, zH⟩
 ·rw [if_neg c8] at H
  have c8b0 := beq_eq_false_iff_ne.mpr c8
  have c8b1 := bne_iff_ne.mpr c8
  obtain rfl := Option.some.inj H
  go_enter Tryd.func33, Tryd.ntmps33
  go_wp2_with (first | (refine box_evA 6 #[.bool a0_0, .string a0_1, .string a0_2] 29 ?_; intro gb783 hg w26 hbox hb; obtain ⟨n0_, n1_, n2_, n3_⟩ := bx4 w hbox hb hg; revert n0_ n1_ n2_ n3_; clear HB; intro HB BK783 GW783 GE783; clear hb hbox hg) | (refine goesLA 15 Tryd.func12 #[.slice A1 l1.length c1] ?_; (with_reducible refine (I1Check.calls k _ _ l1 t784 _ ?side1 ?side2 A7.out).mono ?_); (case side1 => exact sC (Kd.C_below HR1.out HB.out)); (case side2 => exact HC1.out); rintro e w27 ⟨rfl, hb⟩; refine ⟨_, rfl, ?_⟩; have n0_ := bB BK783 hb; have n1_ := sB hb; revert n0_ n1_; clear BK783 HB; intro BK783 HB; (try clear hb); (try clear hb2); (try clear hk); (try clear hi)))
  go_ret
  exact ⟨zE, zH⟩
end Go.Proofs.YtggfilmdfpmbmaaDoor.QN
end
