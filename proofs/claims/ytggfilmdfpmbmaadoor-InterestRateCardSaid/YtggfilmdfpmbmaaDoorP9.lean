/-
  Steps and laws behind the statement that the claim's last text proves: the words of the walks, the walks of the Go functions (printed by a program of this session's own, then shortened by one), and what they compute. Conditions: stated at each theorem.
-/
import Derived.Test.YtggfilmdfpmbmaaDoorP1
import Derived.Test.YtggfilmdfpmbmaaDoorP3
import Derived.Test.YtggfilmdfpmbmaaDoorP0
import Derived.Test.YtggfilmdfpmbmaaDoorP2
import Derived.Test.YtggfilmdfpmbmaaDoorP4
section
namespace Go.Proofs.YtggfilmdfpmbmaaDoor.QN
open Go.RowKit Go.Proofs.YtggfilmdfpmbmaaDoorW.PrintWords Go.Proofs.YtggfilmdfpmbmaaDoorW.PrintLast Go.Proofs.YtggfilmdfpmbmaaDoorW.PrintMore
attribute [local go_sem] max2_int min2_int max_two min_two max_three min_three max_four min_four   -- for this text's walks alone
set_option linter.unusedVariables false
set_option linter.unusedSimpArgs false
def R1divide.f (k : Nat) (l0 : List Int) (l1 : List Int) : Option (List Int × List Int) := (R1order.f k l0 l1).bind fun t408 => (if t408 < 0 then (some (([] : List Int), l0)) else (if (l1.length : Int) = 1 then (if 0 < (l1.length : Int) then ((R1short.f k l0 (rd l1 0)).bind fun bt410 => ((R1strip.f k (([bt410.2] : List Int))).bind fun t417 => (some (bt410.1, t417)))) else (none)) else ((R1long.f k l0 l1).bind fun bt420 => (some (bt420.1, bt420.2)))))
set_option maxHeartbeats 8000000 in
set_option maxRecDepth 100000 in
theorem R1divide.calls (k : Nat) (P0_ : Nat → Prop) (A0 : Option Addr) (c0 : Nat) (l0 : List Int) (A1 : Option Addr) (c1 : Nat) (l1 : List Int) (r1 : List Int) (r2 : List Int) (w : World) (hs0 : Kd.V (Kd.int .u32) 86 w w.heap.size (fun k_ => P0_ k_) (.slice A0 l0.length c0) l0) (hr1 : Kd.C (Kd.int .u32) w A1 l1.length l1) (hc1 : l1.length ≤ c1) (h : R1divide.f k l0 l1 = some (r1, r2)) :
 Calls Tryd.prog 76 #[.slice A0 l0.length c0, .slice A1 l1.length c1] w fun e w' => ∃ v0_ v1_ : Value, e = .returned (.tuple #[v0_, v1_]) ∧ Kd.V (Kd.int .u32) 86 w' w.heap.size (fun k_ => (P0_ k_ ∨ w.heap.size ≤ k_)) v0_ r1 ∧ Kd.V (Kd.int .u32) 86 w' w.heap.size (fun k_ => (P0_ k_ ∨ w.heap.size ≤ k_)) v1_ r2 ∧ Below w.heap.size w w' := by
 have HO0 := Aside0.mk (show Kd.V (Kd.int .u32) 86 w w.heap.size (fun k_ => (P0_ k_ ∨ w.heap.size ≤ k_)) (.slice A0 l0.length c0) l0 from Kd.V_mono hs0 (fun k_ hk => .inl hk))
 have HR1 := Aside0.mk hr1
 have HC1 := Aside0.mk hc1
 clear hr1 hc1
 have HB := Aside0.mk (Below.refl w.heap.size w)
 have H : ((R1order.f k l0 l1).bind fun t408 => (if t408 < 0 then (some (([] : List Int), l0)) else (if (l1.length : Int) = 1 then (if 0 < (l1.length : Int) then ((R1short.f k l0 (rd l1 0)).bind fun bt410 => ((R1strip.f k (([bt410.2] : List Int))).bind fun t417 => (some (bt410.1, t417)))) else (none)) else ((R1long.f k l0 l1).bind fun bt420 => (some (bt420.1, bt420.2)))))) = some (r1, r2) := h
 clear h
 replace H := bS H
 obtain ⟨t408, A3, H⟩ := H
 by_cases c4 : t408 < 0
 ·rw [if_pos c4] at H
  have c4b0 := decide_eq_true c4
  clear c4
  simp only [Option.some.injEq, Prod.mk.injEq] at H
  obtain ⟨rfl, rfl⟩ := H
  go_enter Tryd.func76, Tryd.ntmps76
  go_wp2_with (first | (refine goesLA 10 Tryd.func82 #[.slice A0 l0.length c0, .slice A1 l1.length c1] ?_; (with_reducible refine (R1order.calls k _ _ l0 _ _ l1 t408 _ ?side1 ?side2 ?side3 ?side4 A3.out).mono ?_); (case side1 => exact sC (Kd.V_reads' HO0.out).2.2); (case side2 => exact (Kd.V_reads' HO0.out).2.1); (case side3 => exact sC HR1.out); (case side4 => exact HC1.out); rintro e w' ⟨rfl, ⟨nd, rfl⟩⟩; refine ⟨_, rfl, ?_⟩))
  go_ret2
  exact ⟨_, _, zE, Kd.V_mono (Kd.R_V zq47) (fun k_ hk => by first | exact ⟨(.inr (hk.1)), hk.2⟩ | exact (.inr (hk))), by (with_reducible repeat (first | apply Kd.V_alloc | apply Kd.V_drewN | apply Kd.V_drew)); exact HO0.out, zH⟩
 ·rw [if_neg c4] at H
  have c4b0 := decide_eq_false c4
  clear c4
  by_cases c5 : (l1.length : Int) = 1
  ·rw [if_pos c5] at H
   have c5b0 := beq_iff_eq.mpr c5
   have c5b1 : ((l1.length : Int) != 1) = false := bne_eq_false_iff_eq.mpr c5
   clear c5
   replace H := of_ite H
   obtain ⟨c6, H⟩ := H
   have c6b0 := decide_eq_true c6
   have c6b1 : decide (0 < l1.length) = true := decide_eq_true (by omega)
   clear c6
   replace H := bS H
   obtain ⟨⟨t410, t413⟩, A7, H⟩ := H
   (try dsimp only at H)
   obtain ⟨y414, hy414⟩ : ∃ y_ : List Int, y_ = (([t413] : List Int)) := ⟨_, rfl⟩
   (try rw [Option.bind_some] at H); (try rw [← hy414] at H)
   have Ny414 := Aside0.mk hy414
   clear hy414
   replace H := bS H
   obtain ⟨t417, A8, H⟩ := H
   simp only [Option.some.injEq, Prod.mk.injEq] at H
   obtain ⟨rfl, rfl⟩ := H
   go_enter Tryd.func76, Tryd.ntmps76
   go_wp2_with (first | (refine goesLA 10 Tryd.func82 #[.slice A0 l0.length c0, .slice A1 l1.length c1] ?_; (with_reducible refine (R1order.calls k _ _ l0 _ _ l1 t408 _ ?side1 ?side2 ?side3 ?side4 A3.out).mono ?_); (case side1 => exact sC (Kd.V_reads' HO0.out).2.2); (case side2 => exact (Kd.V_reads' HO0.out).2.1); (case side3 => exact sC HR1.out); (case side4 => exact HC1.out); rintro e w' ⟨rfl, ⟨nd, rfl⟩⟩; refine ⟨_, rfl, ?_⟩; have p409 : 0 ≤ (0 : Int) := (by omega); have q409 : 0 < (l1.length : Int) := of_decide_eq_true zq0; obtain ⟨ad409, e409, hx409_0⟩ := Kd.at_int HR1.out 0 p409 q409; cases e409; have qi409 : (0 < l1.length) = True := eq_true (by omega); (try rw [show ((0 : Int)).toNat = 0 from rfl] at hx409_0); (try rw [Addr.add_zero'] at hx409_0); replace p409 := eq_true p409; replace q409 := eq_true q409) | (refine goesLA 21 Tryd.func91 #[.slice A0 l0.length c0, .int .u32 (rd l1 0)] ?_; (with_reducible refine (R1short.calls k _ _ l0 (rd l1 0) t410 t413 _ ?side1 ?side2 A7.out).mono ?_); (case side1 => exact sC (Kd.V_reads' HO0.out).2.2); (case side2 => exact (Kd.V_reads' HO0.out).2.1); rintro e w9 ⟨v411, rfl, ho0, hb⟩; refine ⟨_, rfl, ?_⟩; have n0_ := Aside0.mk (Kd.V_below zq6 hb); have n1_ := Aside0.mk (Kd.V_lower (Kd.V_mono (ok' := fun k_ => (P0_ k_ ∨ w.heap.size ≤ k_)) ho0 (fun k_ hk_ => (.inr (Nat.le_trans (below_size zH) hk_)))) (below_size zH)); have n2_ := sB hb; revert n0_ n1_ n2_; clear HO0 HB; intro HO0 HO412 HB; (try clear hb); (try clear hb2); (try clear hk); (try clear hi); (try clear ho0)) | ((with_reducible refine gate_dst (N := 26) rfl ?_); refine Kd.R_lit (Kd.int .u32) _ 86 ?hg (N := 26) ?hd (xs := ([t413] : List Int)) (inner := [.int .u32 t413]) (ok := fun _ => True) (okp := fun _ => True) ?hr ?hp (fun _ hk => hk) trivial (Below.refl _ _) (Nat.le_refl _) (by simp) ?_; (case hd => rfl); (case hg => rfl); (case hr => first | (go_simp; done) | (go_simp; rfl)); (case hp => exact (Reps.one (show Kd.M (Kd.int .u32) _ _ _ t413 [.int .u32 t413] from rfl) (Reps.none _ _))); intro v415 w10 ho11 hb hg_ hnew_; clear hg_ hnew_; (first | rw [← Ny414.out] at ho11 | (simp only [Int.reduceToNat] at ho11; rw [← Ny414.out] at ho11)); have n0_ := Aside0.mk (Kd.V_elder' zq6 (Kd.R_base ho11) hb); have n1_ := Aside0.mk (Kd.V_elder' (by (with_reducible repeat (first | apply Kd.V_alloc | apply Kd.V_drewN | apply Kd.V_drew)); exact HO412.out) (Kd.R_base ho11) hb); have n2_ := Aside0.mk (Kd.R_lower (Kd.R_newM (M := fun k_ => (w.heap.size ≤ k_)) ho11 (below_size zH) (fun k_ h_ => h_)) (below_size zH)); have n3_ := sB hb; revert n0_ n1_ n2_ n3_; clear HO0 HO412 HB; intro HO0 HO412 HO416 HB; clear hb ho11; obtain ⟨Ao12, co12, eo12⟩ := Kd.R_slice HO416.out; subst eo12) | (refine goesLA 27 Tryd.func78 #[.slice Ao12 y414.length co12] ?_; (with_reducible refine (R1strip.calls k (fun k_ => some k_ = (.slice Ao12 y414.length co12 : Value).ownBlock) _ _ y414 t417 _ ?side1 A8.out).mono ?_); (case side1 => exact Kd.R_V (Kd.R_tight rfl (HO416.out))); rintro e w13 ⟨v418, rfl, ho0, hb⟩; refine ⟨_, rfl, ?_⟩; have n0_ := Aside0.mk (Kd.V_below zq6 hb); have n1_ := Aside0.mk (Kd.V_below (by (with_reducible repeat (first | apply Kd.V_alloc | apply Kd.V_drewN | apply Kd.V_drew)); exact HO412.out) hb); have n2_ := Aside0.mk (Kd.R_below (by (with_reducible repeat (first | apply Kd.R_alloc | apply Kd.R_drewN | apply Kd.R_drew)); exact HO416.out) hb); have n3_ := Aside0.mk (Kd.V_lower (Kd.V_mono (ok' := fun k_ => (P0_ k_ ∨ w.heap.size ≤ k_)) ho0 (fun k_ hk_ => Or.elim hk_ (fun hs_ => (.inr (((HO416.out).1 k_ hs_.symm).1))) (fun hn_ => (.inr (Nat.le_trans (below_size zH) hn_))))) (below_size zH)); have n4_ := sB hb; revert n0_ n1_ n2_ n3_ n4_; clear HO0 HO412 HO416 HB; intro HO0 HO412 HO416 HO419 HB; (try clear hb); (try clear hb2); (try clear hk); (try clear hi); (try clear ho0)))
   go_ret2
   exact ⟨_, _, zE, by (with_reducible repeat (first | apply Kd.V_alloc | apply Kd.V_drewN | apply Kd.V_drew)); exact Kd.V_mono HO412.out (fun _ hk => hk.1), by (with_reducible repeat (first | apply Kd.V_alloc | apply Kd.V_drewN | apply Kd.V_drew)); exact HO419.out, zH⟩
  ·rw [if_neg c5] at H
   have c5b0 := beq_eq_false_iff_ne.mpr c5
   have c5b1 := bne_iff_ne.mpr c5
   replace H := bS H
   obtain ⟨⟨t420, t423⟩, A14, H⟩ := H
   (try dsimp only at H)
   simp only [Option.some.injEq, Prod.mk.injEq] at H
   obtain ⟨rfl, rfl⟩ := H
   go_enter Tryd.func76, Tryd.ntmps76
   go_wp2_with (first | (refine goesLA 10 Tryd.func82 #[.slice A0 l0.length c0, .slice A1 l1.length c1] ?_; (with_reducible refine (R1order.calls k _ _ l0 _ _ l1 t408 _ ?side1 ?side2 ?side3 ?side4 A3.out).mono ?_); (case side1 => exact sC (Kd.V_reads' HO0.out).2.2); (case side2 => exact (Kd.V_reads' HO0.out).2.1); (case side3 => exact sC HR1.out); (case side4 => exact HC1.out); rintro e w' ⟨rfl, ⟨nd, rfl⟩⟩; refine ⟨_, rfl, ?_⟩) | (refine goesLA 30 Tryd.func92 #[.slice A0 l0.length c0, .slice A1 l1.length c1] ?_; (with_reducible refine (R1long.calls k _ _ l0 _ _ l1 t420 t423 _ ?side1 ?side2 ?side3 ?side4 A14.out).mono ?_); (case side1 => exact sC (Kd.V_reads' HO0.out).2.2); (case side2 => exact (Kd.V_reads' HO0.out).2.1); (case side3 => exact sC HR1.out); (case side4 => exact HC1.out); rintro e w15 ⟨v421, v424, rfl, ho0, ho1, hb⟩; refine ⟨_, rfl, ?_⟩; have n0_ := Aside0.mk (Kd.V_below zq6 hb); have n1_ := Aside0.mk (Kd.V_lower (Kd.V_mono (ok' := fun k_ => (P0_ k_ ∨ w.heap.size ≤ k_)) ho0 (fun k_ hk_ => (.inr (Nat.le_trans (below_size zH) hk_)))) (below_size zH)); have n2_ := Aside0.mk (Kd.V_lower (Kd.V_mono (ok' := fun k_ => (P0_ k_ ∨ w.heap.size ≤ k_)) ho1 (fun k_ hk_ => (.inr (Nat.le_trans (below_size zH) hk_)))) (below_size zH)); have n3_ := sB hb; revert n0_ n1_ n2_ n3_; clear HO0 HB; intro HO0 HO422 HO425 HB; (try clear hb); (try clear hb2); (try clear hk); (try clear hi); (try clear ho0); (try clear ho1)))
   go_ret2
   exact ⟨_, _, zE, by (with_reducible repeat (first | apply Kd.V_alloc | apply Kd.V_drewN | apply Kd.V_drew)); exact HO422.out, by (with_reducible repeat (first | apply Kd.V_alloc | apply Kd.V_drewN | apply Kd.V_drew)); exact HO425.out, zH⟩
def R1common.l0 : Nat → List Int → List Int → Option (List Int)
 | 0, _, _ => none
 | k + 1, x0, x1 => if (x1.length : Int) > 0 then ((R1divide.f k x0 x1).bind fun bt426 => (R1common.l0 k x1 bt426.2)) else (some x0)
def R1common.f (k : Nat) (l0 : List Int) (l1 : List Int) : Option (List Int) := R1common.l0 k l0 l1
set_option maxHeartbeats 8000000 in
set_option maxRecDepth 100000 in
theorem R1common.calls (k : Nat) (P0_ : Nat → Prop) (A0 : Option Addr) (c0 : Nat) (l0 : List Int) (P1_ : Nat → Prop) (A1 : Option Addr) (c1 : Nat) (l1 : List Int) (r : List Int) (w : World) (hs0 : Kd.V (Kd.int .u32) 86 w w.heap.size (fun k_ => P0_ k_) (.slice A0 l0.length c0) l0) (hs1 : Kd.V (Kd.int .u32) 86 w w.heap.size (fun k_ => P1_ k_) (.slice A1 l1.length c1) l1) (h : R1common.f k l0 l1 = some r) :
 Calls Tryd.prog 75 #[.slice A0 l0.length c0, .slice A1 l1.length c1] w fun e w' => ∃ v0_ : Value, e = .returned (v0_) ∧ Kd.V (Kd.int .u32) 86 w' w.heap.size (fun k_ => ((P0_ k_ ∨ P1_ k_) ∨ w.heap.size ≤ k_)) v0_ r ∧ Below w.heap.size w w' := by
 have HO0 := Aside0.mk (show Kd.V (Kd.int .u32) 86 w w.heap.size (fun k_ => ((P0_ k_ ∨ P1_ k_) ∨ w.heap.size ≤ k_)) (.slice A0 l0.length c0) l0 from Kd.V_mono hs0 (fun k_ hk => .inl (.inl hk)))
 have HO1 := Aside0.mk (show Kd.V (Kd.int .u32) 86 w w.heap.size (fun k_ => ((P0_ k_ ∨ P1_ k_) ∨ w.heap.size ≤ k_)) (.slice A1 l1.length c1) l1 from Kd.V_mono hs1 (fun k_ hk => .inl (.inr hk)))
 have HB := Aside0.mk (Below.refl w.heap.size w)
 have H : (R1common.l0 k l0 l1) = some r := h
 clear h
 have H' := Aside0.mk H
 clear H
 go_enter Tryd.func75, Tryd.ntmps75
 go_wp2
 go_loopg [0, 1] k (fun kq v0 v1 w' => ∃ (x0_1 : List Int) (x1_1 : List Int), Aside0 (R1common.l0 kq x0_1 x1_1 = some r) ∧ Aside0 (kq ≤ k) ∧ Aside0 (Kd.V (Kd.int .u32) 86 w' w.heap.size (fun k_ => ((P0_ k_ ∨ P1_ k_) ∨ w.heap.size ≤ k_)) v0 x0_1) ∧ Aside0 (Kd.V (Kd.int .u32) 86 w' w.heap.size (fun k_ => ((P0_ k_ ∨ P1_ k_) ∨ w.heap.size ≤ k_)) v1 x1_1) ∧ Aside0 (Below w.heap.size w w'))
 case atStart => exact ⟨(l0), (l1), H', ⟨Nat.le_refl _⟩, ⟨by (with_reducible repeat (first | apply Kd.V_alloc | apply Kd.V_drewN | apply Kd.V_drew)); exact HO0.out⟩, ⟨by (with_reducible repeat (first | apply Kd.V_alloc | apply Kd.V_drewN | apply Kd.V_drew)); exact HO1.out⟩, ⟨zH⟩⟩
 case round =>
  clear H'
  obtain ⟨x0_1, x1_1, HA, HK1, HO_0, HO_1, HB⟩ := hrel
  cases gk with
  | zero => exact absurd HA.out (by simp [R1common.l0])
  | succ k1 =>
   have H := HA.out
   clear HA
   simp only [R1common.l0] at H
   by_cases c3 : (x1_1.length : Int) > 0
   ·rw [if_pos c3] at H
    have c3b0 := decide_eq_true c3
    have c3b1 : decide (0 < x1_1.length) = true := decide_eq_true (by omega)
    clear c3
    replace H := bS H
    obtain ⟨⟨t426, t429⟩, A4, H⟩ := H
    (try dsimp only at H)
    have H' := Aside0.mk H
    clear H
    obtain ⟨Ao5, co5, eo5⟩ := Kd.V_slice HO_1.out
    subst eo5
    obtain ⟨Ao6, co6, eo6⟩ := Kd.V_slice HO_0.out
    subst eo6
    go_wp2_with (first | (refine goesLA 13 Tryd.func76 #[.slice Ao6 x0_1.length co6, .slice Ao5 x1_1.length co5] ?_; (with_reducible refine (R1divide.calls k1 (fun k_ => ((P0_ k_ ∨ P1_ k_) ∨ w.heap.size ≤ k_)) _ _ x0_1 _ _ x1_1 t426 t429 _ ?side1 ?side2 ?side3 A4.out).mono ?_); (case side1 => exact HO_0.out); (case side2 => exact sC (Kd.V_reads' HO_1.out).2.2); (case side3 => exact (Kd.V_reads' HO_1.out).2.1); rintro e w7 ⟨v427, v430, rfl, ho0, ho1, hb⟩; refine ⟨_, rfl, ?_⟩; have n0_ := Aside0.mk (Kd.V_below (by (with_reducible repeat (first | apply Kd.V_alloc | apply Kd.V_drewN | apply Kd.V_drew)); exact HO_0.out) hb); have n1_ := Aside0.mk (Kd.V_below zq8 hb); have n2_ := Aside0.mk (Kd.V_lower (Kd.V_mono (ok' := fun k_ => ((P0_ k_ ∨ P1_ k_) ∨ w.heap.size ≤ k_)) ho0 (fun k_ hk_ => Or.elim hk_ (fun hs_ => hs_) (fun hn_ => (.inr (Nat.le_trans (below_size zH) hn_))))) (below_size zH)); have n3_ := Aside0.mk (Kd.V_lower (Kd.V_mono (ok' := fun k_ => ((P0_ k_ ∨ P1_ k_) ∨ w.heap.size ≤ k_)) ho1 (fun k_ hk_ => Or.elim hk_ (fun hs_ => hs_) (fun hn_ => (.inr (Nat.le_trans (below_size zH) hn_))))) (below_size zH)); have n4_ := sB hb; revert n0_ n1_ n2_ n3_ n4_; clear HO_0 HO_1 HB; intro HO_0 HO_1 HO428 HO431 HB; (try clear hb); (try clear hb2); (try clear hk); (try clear hi); (try clear ho0); (try clear ho1)))
    go_roundg k1
    case measure => have := HK1.out; omega
    case rel => exact ⟨(x1_1), (t429), H', ⟨by have := HK1.out; omega⟩, ⟨by (with_reducible repeat (first | apply Kd.V_alloc | apply Kd.V_drewN | apply Kd.V_drew)); exact HO_1.out⟩, ⟨by (with_reducible repeat (first | apply Kd.V_alloc | apply Kd.V_drewN | apply Kd.V_drew)); exact HO431.out⟩, ⟨zH⟩⟩
   ·rw [if_neg c3] at H
    have c3b0 := decide_eq_false c3
    have c3b1 : decide (0 < x1_1.length) = false := decide_eq_false (by omega)
    clear c3
    obtain rfl := Option.some.inj H
    obtain ⟨Ao8, co8, eo8⟩ := Kd.V_slice HO_1.out
    subst eo8
    go_wp2
    go_ret
    exact ⟨_, zE, by (with_reducible repeat (first | apply Kd.V_alloc | apply Kd.V_drewN | apply Kd.V_drew)); exact HO_0.out, zH⟩
end Go.Proofs.YtggfilmdfpmbmaaDoor.QN
end
section
namespace Go.Proofs.YtggfilmdfpmbmaaDoor.QN
open Go.RowKit Go.Proofs.YtggfilmdfpmbmaaDoorW.PrintWords Go.Proofs.YtggfilmdfpmbmaaDoorW.PrintLast Go.Proofs.YtggfilmdfpmbmaaDoorW.PrintMore
attribute [local go_sem] max2_int min2_int max_two min_two max_three min_three max_four min_four   -- for this text's walks alone
set_option linter.unusedVariables false
set_option linter.unusedSimpArgs false
def R1GCD.f (k : Nat) (a0 : ByteArray) (a1 : ByteArray) : Option (ByteArray) := (R1limbs.f k a0).bind fun t471 => ((R1limbs.f k a1).bind fun t474 => ((R1common.f k t471 t474).bind fun t477 => ((R1text.f k t477).bind fun t480 => (some t480))))
set_option maxHeartbeats 8000000 in
set_option maxRecDepth 100000 in
theorem R1GCD.calls (k : Nat) (a0 : ByteArray) (a1 : ByteArray) (r : ByteArray) (w : World) (h : R1GCD.f k a0 a1 = some r) :
 Calls Tryd.prog 80 #[.string a0, .string a1] w fun e w' => e = .returned (.string r) ∧ Below w.heap.size w w' := by
 have HB := Aside0.mk (Below.refl w.heap.size w)
 have H : ((R1limbs.f k a0).bind fun t471 => ((R1limbs.f k a1).bind fun t474 => ((R1common.f k t471 t474).bind fun t477 => ((R1text.f k t477).bind fun t480 => (some t480))))) = some r := h
 clear h
 replace H := bS H
 obtain ⟨t471, A3, H⟩ := H
 replace H := bS H
 obtain ⟨t474, A4, H⟩ := H
 replace H := bS H
 obtain ⟨t477, A5, H⟩ := H
 replace H := bS H
 obtain ⟨t480, A6, H⟩ := H
 obtain rfl := Option.some.inj H
 go_enter Tryd.func80, Tryd.ntmps80
 go_wp2_with (first | (refine goesLA 6 Tryd.func56 #[.string a0] ?_; (with_reducible refine (R1limbs.calls k a0 t471 _ A3.out).mono ?_); rintro e w7 ⟨v472, rfl, ho0, hb⟩; refine ⟨_, rfl, ?_⟩; have n0_ := Aside0.mk (Kd.R_lower ho0 (below_size zH)); have n1_ := sB hb; revert n0_ n1_; clear HB; intro HO473 HB; (try clear hb); (try clear hb2); (try clear hk); (try clear hi); (try clear ho0)) | (refine goesLA 8 Tryd.func56 #[.string a1] ?_; (with_reducible refine (R1limbs.calls k a1 t474 _ A4.out).mono ?_); rintro e w8 ⟨v475, rfl, ho0, hb⟩; refine ⟨_, rfl, ?_⟩; have n0_ := Aside0.mk (Kd.R_elder' zq29 (Kd.R_base ho0) hb); have n1_ := Aside0.mk (Kd.R_lower (Kd.R_new' ho0 (Kd.R_lt zq29)) (below_size zH)); have n2_ := sB hb; revert n0_ n1_ n2_; clear HO473 HB; intro HO473 HO476 HB; (try clear hb); (try clear hb2); (try clear hk); (try clear hi); (try clear ho0); obtain ⟨Ao9, co9, eo9⟩ := Kd.R_slice HO473.out; subst eo9; obtain ⟨Ao10, co10, eo10⟩ := Kd.R_slice HO476.out; subst eo10) | (refine goesLA 9 Tryd.func75 #[.slice Ao9 t471.length co9, .slice Ao10 t474.length co10] ?_; (with_reducible refine (R1common.calls k (fun k_ => some k_ = (.slice Ao9 t471.length co9 : Value).ownBlock) _ _ t471 (fun k_ => some k_ = (.slice Ao10 t474.length co10 : Value).ownBlock) _ _ t474 t477 _ ?side1 ?side2 A5.out).mono ?_); (case side1 => exact Kd.R_V (Kd.R_tight rfl (HO473.out))); (case side2 => exact Kd.R_V (Kd.R_tight rfl (HO476.out))); rintro e w11 ⟨v478, rfl, ho0, hb⟩; refine ⟨_, rfl, ?_⟩; have n0_ := Aside0.mk (Kd.R_below zq29 hb); have n1_ := Aside0.mk (Kd.R_below (by (with_reducible repeat (first | apply Kd.R_alloc | apply Kd.R_drewN | apply Kd.R_drew)); exact HO476.out) hb); have n2_ := Aside0.mk (Kd.V_lower (Kd.V_mono (ok' := fun k_ => True) ho0 (fun k_ hk_ => trivial)) (below_size zH)); have n3_ := sB hb; revert n0_ n1_ n2_ n3_; clear HO473 HO476 HB; intro HO473 HO476 HO479 HB; (try clear hb); (try clear hb2); (try clear hk); (try clear hi); (try clear ho0); obtain ⟨Ao12, co12, eo12⟩ := Kd.V_slice HO479.out; subst eo12) | (refine goesLA 10 Tryd.func77 #[.slice Ao12 t477.length co12] ?_; (with_reducible refine (R1text.calls k _ _ t477 t480 _ ?side1 ?side2 A6.out).mono ?_); (case side1 => exact sC (Kd.V_reads' HO479.out).2.2); (case side2 => exact (Kd.V_reads' HO479.out).2.1); rintro e w13 ⟨rfl, hb⟩; refine ⟨_, rfl, ?_⟩; have n0_ := Aside0.mk (Kd.R_below zq29 hb); have n1_ := Aside0.mk (Kd.R_below (by (with_reducible repeat (first | apply Kd.R_alloc | apply Kd.R_drewN | apply Kd.R_drew)); exact HO476.out) hb); have n2_ := Aside0.mk (Kd.V_below (by (with_reducible repeat (first | apply Kd.V_alloc | apply Kd.V_drewN | apply Kd.V_drew)); exact HO479.out) hb); have n3_ := sB hb; revert n0_ n1_ n2_ n3_; clear HO473 HO476 HO479 HB; intro HO473 HO476 HO479 HB; (try clear hb); (try clear hb2); (try clear hk); (try clear hi)))
 go_ret
 exact ⟨zE, zH⟩
def R1FromUint.f (k : Nat) (a0 : Int) : Option (ByteArray) := (R1text.f k (([(a0) % 4294967296, (a0 / 4294967296) % 4294967296] : List Int))).bind fun t484 => (some t484)
set_option maxHeartbeats 8000000 in
set_option maxRecDepth 100000 in
theorem R1FromUint.calls (k : Nat) (a0 : Int) (r : ByteArray) (w : World) (h : R1FromUint.f k a0 = some r) :
 Calls Tryd.prog 60 #[.int .u64 a0] w fun e w' => e = .returned (.string r) ∧ Below w.heap.size w w' := by
 have HB := Aside0.mk (Below.refl w.heap.size w)
 have H : ((R1text.f k (([(a0) % 4294967296, (a0 / 4294967296) % 4294967296] : List Int))).bind fun t484 => (some t484)) = some r := h
 clear h
 obtain ⟨y481, hy481⟩ : ∃ y_ : List Int, y_ = (([(a0) % 4294967296, (a0 / 4294967296) % 4294967296] : List Int)) := ⟨_, rfl⟩
 (try rw [Option.bind_some] at H); (try rw [← hy481] at H)
 have Ny481 := Aside0.mk hy481
 clear hy481
 replace H := bS H
 obtain ⟨t484, A2, H⟩ := H
 obtain rfl := Option.some.inj H
 go_enter Tryd.func60, Tryd.ntmps60
 go_wp2_with (first | ((with_reducible refine gate_dst (N := 8) rfl ?_); refine Kd.R_lit (Kd.int .u32) _ 86 ?hg (N := 8) ?hd (xs := ([(a0) % 4294967296, (a0 / 4294967296) % 4294967296] : List Int)) (inner := [.int .u32 ((a0) % 4294967296), .int .u32 ((a0 / 4294967296) % 4294967296)]) (ok := fun _ => True) (okp := fun _ => True) ?hr ?hp (fun _ hk => hk) trivial (Below.refl _ _) (Nat.le_refl _) (by simp) ?_; (case hd => rfl); (case hg => rfl); (case hr => first | (go_simp; done) | (go_simp; rfl)); (case hp => exact (Reps.one (show Kd.M (Kd.int .u32) _ _ _ ((a0) % 4294967296) [.int .u32 ((a0) % 4294967296)] from rfl) (Reps.one (show Kd.M (Kd.int .u32) _ _ _ ((a0 / 4294967296) % 4294967296) [.int .u32 ((a0 / 4294967296) % 4294967296)] from rfl) (Reps.none _ _)))); intro v482 w3 ho4 hb hg_ hnew_; clear hg_ hnew_; (first | rw [← Ny481.out] at ho4 | (simp only [Int.reduceToNat] at ho4; rw [← Ny481.out] at ho4)); have n0_ := Aside0.mk (Kd.R_lower ho4 (below_size zH)); have n1_ := sB hb; revert n0_ n1_; clear HB; intro HO483 HB; clear hb ho4; obtain ⟨Ao5, co5, eo5⟩ := Kd.R_slice HO483.out; subst eo5) | (refine goesLA 9 Tryd.func77 #[.slice Ao5 y481.length co5] ?_; (with_reducible refine (R1text.calls k _ _ y481 t484 _ ?side1 ?side2 A2.out).mono ?_); (case side1 => exact sC (Kd.R_reads' HO483.out).2.2); (case side2 => exact (Kd.R_reads' HO483.out).2.1); rintro e w6 ⟨rfl, hb⟩; refine ⟨_, rfl, ?_⟩; have n0_ := Aside0.mk (Kd.R_below (by (with_reducible repeat (first | apply Kd.R_alloc | apply Kd.R_drewN | apply Kd.R_drew)); exact HO483.out) hb); have n1_ := sB hb; revert n0_ n1_; clear HO483 HB; intro HO483 HB; (try clear hb); (try clear hb2); (try clear hk); (try clear hi)))
 go_ret
 exact ⟨zE, zH⟩
def R1size.f (a0 : Int) : Option (Int) := if a0 < 0 then (some (IntKind.u64.wrap ((IntKind.u64.wrap (wrap64 (-(wrap64 (a0 + 1))))) + 1))) else (some (IntKind.u64.wrap (a0)))
set_option maxHeartbeats 8000000 in
set_option maxRecDepth 100000 in
theorem R1size.calls (a0 : Int) (r : Int) (w : World) (h : R1size.f a0 = some r) :
 Calls Tryd.prog 61 #[.int .i64 a0] w fun e w' => e = .returned (.int .u64 r) ∧ Drawn0 w w' := by
 have H : (if a0 < 0 then (some (IntKind.u64.wrap ((IntKind.u64.wrap (wrap64 (-(wrap64 (a0 + 1))))) + 1))) else (some (IntKind.u64.wrap (a0)))) = some r := h
 clear h
 by_cases c2 : a0 < 0
 ·rw [if_pos c2] at H
  have c2b0 := decide_eq_true c2
  clear c2
  obtain rfl := Option.some.inj H
  go_enter Tryd.func61, Tryd.ntmps61
  go_wp2
  go_ret
  exact ⟨by first | rfl | (simp; done) | (simp [*]; done), by repeat (first | exact Drawn0.refl _ | apply Drawn0.step)⟩
 ·rw [if_neg c2] at H
  have c2b0 := decide_eq_false c2
  clear c2
  obtain rfl := Option.some.inj H
  go_enter Tryd.func61, Tryd.ntmps61
  go_wp2
  go_ret
  exact ⟨by first | rfl | (simp; done) | (simp [*]; done), by repeat (first | exact Drawn0.refl _ | apply Drawn0.step)⟩
end Go.Proofs.YtggfilmdfpmbmaaDoor.QN
end
section
namespace Go.Proofs.YtggfilmdfpmbmaaDoor.QN
open Go.RowKit Go.Proofs.YtggfilmdfpmbmaaDoorW.PrintWords Go.Proofs.YtggfilmdfpmbmaaDoorW.PrintLast Go.Proofs.YtggfilmdfpmbmaaDoorW.PrintMore
attribute [local go_sem] max2_int min2_int max_two min_two max_three min_three max_four min_four   -- for this text's walks alone
set_option linter.unusedVariables false
set_option linter.unusedSimpArgs false
def Q1Make.f (k : Nat) (a0 : Bool) (a1 : ByteArray) (a2 : ByteArray) : Option (Bool × ByteArray × ByteArray × Bool) := (N1Normalize.f k a2).bind fun t595 => (if t595.toList = ([] : List UInt8) then (some (false, (⟨#[]⟩ : ByteArray), (⟨#[]⟩ : ByteArray), false)) else ((Q1reduced.f k a0 a1 a2).bind fun bt596 => (some (bt596.1, bt596.2.1, bt596.2.2, true))))
set_option maxHeartbeats 8000000 in
set_option maxRecDepth 100000 in
theorem Q1Make.calls (k : Nat) (a0 : Bool) (a1 : ByteArray) (a2 : ByteArray) (r1 : Bool) (r2 : ByteArray) (r3 : ByteArray) (r4 : Bool) (w : World) (h : Q1Make.f k a0 a1 a2 = some (r1, r2, r3, r4)) :
 Calls Tryd.prog 49 #[.bool a0, .string a1, .string a2] w fun e w' => e = .returned (.tuple #[.agg #[.bool r1, .string r2, .string r3], .bool r4]) ∧ Below w.heap.size w w' := by
 have hu29 := Tryd.underlying29
 have HB := Aside0.mk (Below.refl w.heap.size w)
 have H : ((N1Normalize.f k a2).bind fun t595 => (if t595.toList = ([] : List UInt8) then (some (false, (⟨#[]⟩ : ByteArray), (⟨#[]⟩ : ByteArray), false)) else ((Q1reduced.f k a0 a1 a2).bind fun bt596 => (some (bt596.1, bt596.2.1, bt596.2.2, true))))) = some (r1, r2, r3, r4) := h
 clear h
 replace H := bS H
 obtain ⟨t595, A4, H⟩ := H
 by_cases c5 : t595.toList = ([] : List UInt8)
 ·rw [if_pos c5] at H
  have c5b0 := beq_iff_eq.mpr c5
  have c5b1 : (t595.toList != ([] : List UInt8)) = false := bne_eq_false_iff_eq.mpr c5
  clear c5
  simp only [Option.some.injEq, Prod.mk.injEq] at H
  obtain ⟨rfl, rfl, rfl, rfl⟩ := H
  go_enter Tryd.func49, Tryd.ntmps49
  go_wp2_with (first | (refine box_evA 6 #[.bool false, .string (⟨#[]⟩ : ByteArray), .string (⟨#[]⟩ : ByteArray)] 29 ?_; intro gb594 hg w6 hbox hb; obtain ⟨n0_, n1_, n2_, n3_⟩ := bx4 w hbox hb hg; revert n0_ n1_ n2_ n3_; clear HB; intro HB BK594 GW594 GE594; clear hb hbox hg) | (refine goesLA 9 Tryd.func63 #[.string a2] ?_; (with_reducible refine (N1Normalize.calls k a2 t595 _ A4.out).mono ?_); rintro e w' ⟨rfl, ⟨nd, rfl⟩⟩; refine ⟨_, rfl, ?_⟩; (try (rw [drewN_self w6]; generalize hq_ : World.drewN w6 _ = w6; have n0_ : Aside0 (w6.heap[gb594]? = some (.cells #[.bool false, .string (⟨#[]⟩ : ByteArray), .string (⟨#[]⟩ : ByteArray)] 29 (0, 0))) := ⟨by rw [← hq_]; exact (by (with_reducible repeat (first | refine blk_drewN ?_ _ | refine blk_drew ?_ | refine blk_alloc ?_ _)); exact BK594.out)⟩; have n1_ : Aside0 (Below w.heap.size w w6) := ⟨by rw [← hq_]; exact zH⟩; clear BK594 HB hq_; have BK594 := n0_; have HB := n1_; clear n0_ n1_)); have hcz7_0 := cB BK594 0 (.bool false); have hcz7_1 := cB BK594 1 (.string (⟨#[]⟩ : ByteArray)); have hcz7_2 := cB BK594 2 (.string (⟨#[]⟩ : ByteArray)); have hfz7_0 := fB BK594 0; have hfz7_1 := fB BK594 1; have hfz7_2 := fB BK594 2))
  refine bodyPost_ret (results_ct rfl _ _ gb594 29 #[.bool false, .string (⟨#[]⟩ : ByteArray), .string (⟨#[]⟩ : ByteArray)] (0, 0) _ rfl (bC BK594) Tryd.underlying29 rfl (by kernel_rfl)) rfl ?_
  exact ⟨zE, zH⟩
 ·rw [if_neg c5] at H
  have c5b0 := beq_eq_false_iff_ne.mpr c5
  have c5b1 := bne_iff_ne.mpr c5
  replace H := bS H
  obtain ⟨⟨t596, t597, t598⟩, A8, H⟩ := H
  (try dsimp only at H)
  simp only [Option.some.injEq, Prod.mk.injEq] at H
  obtain ⟨rfl, rfl, rfl, rfl⟩ := H
  go_enter Tryd.func49, Tryd.ntmps49
  go_wp2_with (first | (refine box_evA 6 #[.bool false, .string (⟨#[]⟩ : ByteArray), .string (⟨#[]⟩ : ByteArray)] 29 ?_; intro gb594 hg w9 hbox hb; obtain ⟨n0_, n1_, n2_, n3_⟩ := bx4 w hbox hb hg; revert n0_ n1_ n2_ n3_; clear HB; intro HB BK594 GW594 GE594; clear hb hbox hg) | (refine goesLA 9 Tryd.func63 #[.string a2] ?_; (with_reducible refine (N1Normalize.calls k a2 t595 _ A4.out).mono ?_); rintro e w' ⟨rfl, ⟨nd, rfl⟩⟩; refine ⟨_, rfl, ?_⟩; (try (rw [drewN_self w9]; generalize hq_ : World.drewN w9 _ = w9; have n0_ : Aside0 (w9.heap[gb594]? = some (.cells #[.bool false, .string (⟨#[]⟩ : ByteArray), .string (⟨#[]⟩ : ByteArray)] 29 (0, 0))) := ⟨by rw [← hq_]; exact (by (with_reducible repeat (first | refine blk_drewN ?_ _ | refine blk_drew ?_ | refine blk_alloc ?_ _)); exact BK594.out)⟩; have n1_ : Aside0 (Below w.heap.size w w9) := ⟨by rw [← hq_]; exact zH⟩; clear BK594 HB hq_; have BK594 := n0_; have HB := n1_; clear n0_ n1_))) | (refine goesLA 15 Tryd.func42 #[.bool a0, .string a1, .string a2] ?_; (with_reducible refine (Q1reduced.calls k a0 a1 a2 t596 t597 t598 _ A8.out).mono ?_); rintro e w10 ⟨rfl, hb⟩; refine ⟨_, rfl, ?_⟩; have n0_ := bB BK594 hb; have n1_ := sB hb; revert n0_ n1_; clear BK594 HB; intro BK594 HB; (try clear hb); (try clear hb2); (try clear hk); (try clear hi); have hcz11_0 := cB BK594 0 (.bool false); have hcz11_1 := cB BK594 1 (.string (⟨#[]⟩ : ByteArray)); have hcz11_2 := cB BK594 2 (.string (⟨#[]⟩ : ByteArray)); have hfz11_0 := fB BK594 0; have hfz11_1 := fB BK594 1; have hfz11_2 := fB BK594 2))
  refine bodyPost_ret (results_ct rfl _ _ gb594 29 #[.bool t596, .string t597, .string t598] (0, 0) _ rfl (bC BK594) Tryd.underlying29 rfl (by kernel_rfl)) rfl ?_
  exact ⟨zE, zH⟩
def Q1Divide.f (k : Nat) (a0_0 : Bool) (a0_1 : ByteArray) (a0_2 : ByteArray) (a1_0 : Bool) (a1_1 : ByteArray) (a1_2 : ByteArray) : Option (Bool × ByteArray × ByteArray × Bool) := (Q1clean.f k a0_0 a0_1 a0_2).bind fun bt602 => ((Q1clean.f k a1_0 a1_1 a1_2).bind fun bt605 => ((Q1den.f bt605.1 bt605.2.1 bt605.2.2).bind fun t608 => ((N1Multiply.f k bt602.2.1 t608).bind fun t609 => ((Q1den.f bt602.1 bt602.2.1 bt602.2.2).bind fun t610 => ((N1Multiply.f k t610 bt605.2.1).bind fun t611 => ((Q1Make.f k (bt602.1 != bt605.1) t609 t611).bind fun bt612 => (some (bt612.1, bt612.2.1, bt612.2.2.1, bt612.2.2.2))))))))
def Q1Divide.T2 : Bool × List (List Nat × List Nat) := (true, [([], []), ([0], [0]), ([], []), ([2], [2]), ([1, 3], [1, 3]), ([], []), ([5], [5]), ([], []), ([7], [7]), ([6, 8, 8], [6, 8]), ([], []), ([10, 9], [10]), ([], []), ([12], [12]), ([11, 13, 11], [11, 13]), ([4, 9, 14, 14], [4, 9, 14]), ([15], [15]), ([15], [15]), ([16, 15, 0, 1, 2, 3, 4, 5, 6, 7, 8, 9, 10, 11, 12, 13, 14, 15, 16, 17], [16]), ([17, 18, 0, 1, 2, 3, 4, 5, 6, 7, 8, 9, 10, 11, 12, 13, 14, 15, 16, 17, 18], [17])])
def Q1Divide.B2 : List Nat := [0, 1, 0, 4, 15, 0, 32, 0, 128, 480, 0, 2016, 0, 4096, 16352, 32767, 65535, 65535, 262143, 524287]
theorem Q1Divide.tab2 : rtab .any (opsOf Tryd.f25 2) = Q1Divide.T2 := by kernel_rfl
theorem Q1Divide.bits2 : waitsOk Q1Divide.T2.2 Q1Divide.B2 = true := by kernel_rfl
set_option maxHeartbeats 8000000 in
set_option maxRecDepth 100000 in
theorem Q1Divide.calls (k : Nat) (a0_0 : Bool) (a0_1 : ByteArray) (a0_2 : ByteArray) (a1_0 : Bool) (a1_1 : ByteArray) (a1_2 : ByteArray) (r1 : Bool) (r2 : ByteArray) (r3 : ByteArray) (r4 : Bool) (w : World) (h : Q1Divide.f k a0_0 a0_1 a0_2 a1_0 a1_1 a1_2 = some (r1, r2, r3, r4)) :
 Calls Tryd.prog 25 #[.agg #[.bool a0_0, .string a0_1, .string a0_2], .agg #[.bool a1_0, .string a1_1, .string a1_2]] w fun e w' => e = .returned (.tuple #[.agg #[.bool r1, .string r2, .string r3], .bool r4]) ∧ Below w.heap.size w w' := by
 have hu29 := Tryd.underlying29
 have HB := Aside0.mk (Below.refl w.heap.size w)
 have H : ((Q1clean.f k a0_0 a0_1 a0_2).bind fun bt602 => ((Q1clean.f k a1_0 a1_1 a1_2).bind fun bt605 => ((Q1den.f bt605.1 bt605.2.1 bt605.2.2).bind fun t608 => ((N1Multiply.f k bt602.2.1 t608).bind fun t609 => ((Q1den.f bt602.1 bt602.2.1 bt602.2.2).bind fun t610 => ((N1Multiply.f k t610 bt605.2.1).bind fun t611 => ((Q1Make.f k (bt602.1 != bt605.1) t609 t611).bind fun bt612 => (some (bt612.1, bt612.2.1, bt612.2.2.1, bt612.2.2.2))))))))) = some (r1, r2, r3, r4) := h
 clear h
 replace H := bS H
 obtain ⟨⟨t602, t603, t604⟩, A3, H⟩ := H
 (try dsimp only at H)
 replace H := bS H
 obtain ⟨⟨t605, t606, t607⟩, A4, H⟩ := H
 (try dsimp only at H)
 replace H := bS H
 obtain ⟨t608, A5, H⟩ := H
 replace H := bS H
 obtain ⟨t609, A6, H⟩ := H
 replace H := bS H
 obtain ⟨t610, A7, H⟩ := H
 replace H := bS H
 obtain ⟨t611, A8, H⟩ := H
 replace H := bS H
 obtain ⟨⟨t612, t613, t614, t615⟩, A9, H⟩ := H
 (try dsimp only at H)
 simp only [Option.some.injEq, Prod.mk.injEq] at H
 obtain ⟨rfl, rfl, rfl, rfl⟩ := H
 go_enter Tryd.func25, Tryd.ntmps25
 try go_wp2_with (first | (refine box_evA 2 #[.bool a0_0, .string a0_1, .string a0_2] 29 ?_; intro gb599 hg w10 hbox hb; obtain ⟨n0_, n1_, n2_, n3_⟩ := bx4 w hbox hb hg; revert n0_ n1_ n2_ n3_; clear HB; intro HB BK599 GW599 GE599; clear hb hbox hg) | (refine box_evA 3 #[.bool a1_0, .string a1_1, .string a1_2] 29 ?_; intro gb600 hg w11 hbox hb; have n0_ := bB BK599 hb; have n1_ := sB hb; have n2_ := Aside0.mk (hbox); have n3_ := wE w hg; have n4_ := wE w hg; have n5_ := Aside0.mk (nL BK599 hg); have n6_ := Aside0.mk (nG BK599 hg); revert n0_ n1_ n2_ n3_ n4_ n5_ n6_; clear BK599 HB; intro BK599 HB BK600 GW600 GE600 NB599_600 NB600_599; clear hb hbox hg) | (refine box_evA 4 #[.bool false, .string (⟨#[]⟩ : ByteArray), .string (⟨#[]⟩ : ByteArray)] 29 ?_; intro gb601 hg w12 hbox hb; have n0_ := bB BK599 hb; have n1_ := bB BK600 hb; have n2_ := sB hb; have n3_ := Aside0.mk (hbox); have n4_ := wE w hg; have n5_ := wE w hg; have n6_ := Aside0.mk (nL BK599 hg); have n7_ := Aside0.mk (nG BK599 hg); have n8_ := Aside0.mk (nL BK600 hg); have n9_ := Aside0.mk (nG BK600 hg); revert n0_ n1_ n2_ n3_ n4_ n5_ n6_ n7_ n8_ n9_; clear BK599 BK600 HB; intro BK599 BK600 HB BK601 GW601 GE601 NB599_601 NB601_599 NB600_601 NB601_600; clear hb hbox hg))
 have n0_ := Aside0.mk (blk_drew BK599.out)
 have n1_ := Aside0.mk (blk_drew BK600.out)
 have n2_ := Aside0.mk (blk_drew BK601.out)
 have n3_ := Aside0.mk (below_drew1 HB.out)
 revert n0_ n1_ n2_ n3_
 clear BK599 BK600 BK601 HB
 intro BK599 BK600 BK601 HB
 refine start_ (n := 6) (S := fun w' => w'.cell? ⟨gb599, 0, none⟩ = some (.bool a0_0) ∧ w'.cell? ⟨gb599, 1, none⟩ = some (.string a0_1) ∧ w'.cell? ⟨gb599, 2, none⟩ = some (.string a0_2) ∧ w'.cell? ⟨gb600, 0, none⟩ = some (.bool a1_0) ∧ w'.cell? ⟨gb600, 1, none⟩ = some (.string a1_1) ∧ w'.cell? ⟨gb600, 2, none⟩ = some (.string a1_2)) (ds := [4, 5]) #[false, false, false, false, false, false] (by kernel_rfl) rfl rfl ⟨cA BK599 0, cA BK599 1, cA BK599 2, cA BK600 0, cA BK600 1, cA BK600 2⟩ (fun hHeld => ?_)
 generalize w12.drew = w13 at BK599 BK600 BK601 HB hHeld ⊢
 refine takeAk 0 6 (lB 6 1) rfl rfl hHeld ?_
 refine takeAk 2 8 (lB 6 5) rfl rfl hHeld ?_
 refine oneAk 1 7 (lB 6 7) rfl rfl (fun K hK => ?_)
 refine goes_ Tryd.func41 (by kernel_rfl) rfl #[.agg #[.bool a0_0, .string a0_1, .string a0_2]] (by rfl) rfl rfl zq2 ?_
 with_reducible refine (Q1clean.calls k a0_0 a0_1 a0_2 t602 t603 t604 _ A3.out).mono ?_
 rintro e w14 ⟨rfl, hb⟩
 refine ⟨_, rfl, ?_⟩
 have n0_ := bB BK599 hb
 have n1_ := bB BK600 hb
 have n2_ := bB BK601 hb
 have n3_ := sB hb
 revert n0_ n1_ n2_ n3_
 clear BK599 BK600 BK601 HB
 intro BK599 BK600 BK601 HB
 (try clear hb); (try clear hb2); (try clear hk); (try clear hi)
 refine hK.out _ _ ⟨cA BK599 0, cA BK599 1, cA BK599 2, cA BK600 0, cA BK600 1, cA BK600 2⟩ (fun hHeld => ?_)
 clear hK K
 refine normA (N := 7) ?_
 refine oneAk 3 9 (lB 6 15) rfl rfl (fun K hK => ?_)
 refine goes_ Tryd.func41 (by kernel_rfl) rfl #[.agg #[.bool a1_0, .string a1_1, .string a1_2]] (by rfl) rfl rfl zq2 ?_
 with_reducible refine (Q1clean.calls k a1_0 a1_1 a1_2 t605 t606 t607 _ A4.out).mono ?_
 rintro e w15 ⟨rfl, hb⟩
 refine ⟨_, rfl, ?_⟩
 have n0_ := bB BK599 hb
 have n1_ := bB BK600 hb
 have n2_ := bB BK601 hb
 have n3_ := sB hb
 revert n0_ n1_ n2_ n3_
 clear BK599 BK600 BK601 HB
 intro BK599 BK600 BK601 HB
 (try clear hb); (try clear hb2); (try clear hk); (try clear hi)
 refine hK.out _ _ ⟨cA BK599 0, cA BK599 1, cA BK599 2, cA BK600 0, cA BK600 1, cA BK600 2⟩ (fun hHeld => ?_)
 clear hK K
 refine normA (N := 9) ?_
 refine last_ (i := 4) (N := none) (lB 6 31) rfl rfl (by kernel_rfl) (by decide) (fun K hK => ?_)
 have hs16 := cB BK599 0 (.bool a0_0)
 have hfs16 := fB BK599 0
 have hns16_1 := NB600_599.out
 have hns16_2 := NB601_599.out
 have hms16_1 := NB599_600.out
 have hms16_2 := NB599_601.out
 have hs17 := cB BK599 1 (.string a0_1)
 have hfs17 := fB BK599 1
 have hns17_1 := NB600_599.out
 have hns17_2 := NB601_599.out
 have hms17_1 := NB599_600.out
 have hms17_2 := NB599_601.out
 have hs18 := cB BK599 2 (.string a0_2)
 have hfs18 := fB BK599 2
 have hns18_1 := NB600_599.out
 have hns18_2 := NB601_599.out
 have hms18_1 := NB599_600.out
 have hms18_2 := NB599_601.out
 refine skip_ (w1 := ?_) (by rfl) rfl ?_ ?_
 rotate_left
 ·go_simp
  rfl
 refine hK.out _ _ ?_
 clear hK K
 refine last_ (i := 5) (N := none) (lB 6 63) rfl rfl (by kernel_rfl) (by decide) (fun K hK => ?_)
 have hs19 := cB BK600 0 (.bool a1_0)
 have hfs19 := fB BK600 0
 have hns19_0 := NB599_600.out
 have hns19_2 := NB601_600.out
 have hms19_0 := NB600_599.out
 have hms19_2 := NB600_601.out
 have hs20 := cB BK600 1 (.string a1_1)
 have hfs20 := fB BK600 1
 have hns20_0 := NB599_600.out
 have hns20_2 := NB601_600.out
 have hms20_0 := NB600_599.out
 have hms20_2 := NB600_601.out
 have hs21 := cB BK600 2 (.string a1_2)
 have hfs21 := fB BK600 2
 have hns21_0 := NB599_600.out
 have hns21_2 := NB601_600.out
 have hms21_0 := NB600_599.out
 have hms21_2 := NB600_601.out
 refine skip_ (w1 := ?_) (by rfl) rfl ?_ ?_
 rotate_left
 ·go_simp
  rfl
 refine hK.out _ _ ?_
 clear hK K
 refine done_ (by kernel_rfl) ?_
 try go_wp2
 generalize hW_ : ((((((w15.setCell ⟨gb599, 0, none⟩ (.bool t602)).setCell ⟨gb599, 1, none⟩ (.string t603)).setCell ⟨gb599, 2, none⟩ (.string t604)).setCell ⟨gb600, 0, none⟩ (.bool t605)).setCell ⟨gb600, 1, none⟩ (.string t606)).setCell ⟨gb600, 2, none⟩ (.string t607)) = w22
 have n0_ : Aside0 (w22.heap[gb599]? = some (.cells #[.bool t602, .string t603, .string t604] 29 (0, 0))) := ⟨by subst hW_; exact bC BK599⟩
 have n1_ : Aside0 (w22.heap[gb600]? = some (.cells #[.bool t605, .string t606, .string t607] 29 (0, 0))) := ⟨by subst hW_; exact bC BK600⟩
 have n2_ : Aside0 (w22.heap[gb601]? = some (.cells #[.bool false, .string (⟨#[]⟩ : ByteArray), .string (⟨#[]⟩ : ByteArray)] 29 (0, 0))) := ⟨by subst hW_; exact bC BK601⟩
 have n3_ : Aside0 (Below w.heap.size w w22) := ⟨by subst hW_; exact zH⟩
 clear hW_
 (try clear BK599); (try clear BK600); (try clear BK601); (try clear HB)
 have BK599 := n0_
 have BK600 := n1_
 have BK601 := n2_
 have HB := n3_
 clear n0_ n1_ n2_ n3_
 have n0_ := Aside0.mk (blk_drew BK599.out)
 have n1_ := Aside0.mk (blk_drew BK600.out)
 have n2_ := Aside0.mk (blk_drew BK601.out)
 have n3_ := Aside0.mk (below_drew1 HB.out)
 revert n0_ n1_ n2_ n3_
 clear BK599 BK600 BK601 HB
 intro BK599 BK600 BK601 HB
 refine start_ (n := 20) (S := fun w' => w'.cell? ⟨gb599, 0, none⟩ = some (.bool t602) ∧ w'.cell? ⟨gb599, 1, none⟩ = some (.string t603) ∧ w'.cell? ⟨gb599, 2, none⟩ = some (.string t604) ∧ w'.cell? ⟨gb600, 0, none⟩ = some (.bool t605) ∧ w'.cell? ⟨gb600, 1, none⟩ = some (.string t606) ∧ w'.cell? ⟨gb600, 2, none⟩ = some (.string t607)) (ds := []) #[false, false, false, false, false, false, false, false, false, false, false, false, false, false, false, false, false, false, false, false] (by kernel_rfl) rfl rfl ⟨cA BK599 0, cA BK599 1, cA BK599 2, cA BK600 0, cA BK600 1, cA BK600 2⟩ (fun hHeld => ?_); refine with_tabW Q1Divide.tab2 Q1Divide.bits2 (fun HT_ HW_ => ?_)
 generalize w22.drew = w23 at BK599 BK600 BK601 HB hHeld ⊢
 refine pureA 0 10 (lB 20 1) rfl rfl ?_
 refine pureA 2 12 (lB 20 5) rfl rfl ?_
 refine pureA 5 15 (lB 20 37) rfl rfl ?_
 refine pureA 12 22 (lB 20 4133) rfl rfl ?_
 refine takeA 1 11 (lB 20 4135) rfl rfl hHeld ?_
 refine takeA 3 13 (lB 20 4143) rfl rfl hHeld ?_
 refine pureA 4 14 (lB 20 4159) rfl rfl ?_
 refine takeA 6 16 (lB 20 4223) rfl rfl hHeld ?_
 refine takeA 7 17 (lB 20 4351) rfl rfl hHeld ?_
 refine takeA 10 20 (lB 20 5375) rfl rfl hHeld ?_
 refine takeA 13 23 (lB 20 13567) rfl rfl hHeld ?_
 refine oneA 8 18 (lB 20 13823) rfl rfl (fun K hK => ?_)
 refine goes_ Tryd.func44 (by kernel_rfl) rfl #[.agg #[.bool t605, .string t606, .string t607]] (by rfl) rfl rfl zq2 ?_
 with_reducible refine (Q1den.calls t605 t606 t607 t608 _ A5.out).mono ?_
 rintro e w24 ⟨rfl, hb⟩
 refine ⟨_, rfl, ?_⟩
 have n0_ := bB BK599 hb
 have n1_ := bB BK600 hb
 have n2_ := bB BK601 hb
 have n3_ := sB hb
 revert n0_ n1_ n2_ n3_
 clear BK599 BK600 BK601 HB
 intro BK599 BK600 BK601 HB
 (try clear hb); (try clear hb2); (try clear hk); (try clear hi)
 refine hK.out _ _ ⟨cA BK599 0, cA BK599 1, cA BK599 2, cA BK600 0, cA BK600 1, cA BK600 2⟩ (fun hHeld => ?_)
 clear hK K
 refine normA (N := 18) ?_
 refine oneA 9 19 (lB 20 14335) rfl rfl (fun K hK => ?_)
 refine goes_ Tryd.func43 (by kernel_rfl) rfl #[.string t603, .string t608] (by rfl) rfl rfl zq2 ?_
 with_reducible refine (N1Multiply.calls k t603 t608 t609 _ A6.out).mono ?_
 rintro e w25 ⟨rfl, hb⟩
 refine ⟨_, rfl, ?_⟩
 have n0_ := bB BK599 hb
 have n1_ := bB BK600 hb
 have n2_ := bB BK601 hb
 have n3_ := sB hb
 revert n0_ n1_ n2_ n3_
 clear BK599 BK600 BK601 HB
 intro BK599 BK600 BK601 HB
 (try clear hb); (try clear hb2); (try clear hk); (try clear hi)
 refine hK.out _ _ ⟨cA BK599 0, cA BK599 1, cA BK599 2, cA BK600 0, cA BK600 1, cA BK600 2⟩ (fun hHeld => ?_)
 clear hK K
 refine normA (N := 19) ?_
 refine oneA 11 21 (lB 20 16383) rfl rfl (fun K hK => ?_)
 refine goes_ Tryd.func44 (by kernel_rfl) rfl #[.agg #[.bool t602, .string t603, .string t604]] (by rfl) rfl rfl zq2 ?_
 with_reducible refine (Q1den.calls t602 t603 t604 t610 _ A7.out).mono ?_
 rintro e w26 ⟨rfl, hb⟩
 refine ⟨_, rfl, ?_⟩
 have n0_ := bB BK599 hb
 have n1_ := bB BK600 hb
 have n2_ := bB BK601 hb
 have n3_ := sB hb
 revert n0_ n1_ n2_ n3_
 clear BK599 BK600 BK601 HB
 intro BK599 BK600 BK601 HB
 (try clear hb); (try clear hb2); (try clear hk); (try clear hi)
 refine hK.out _ _ ⟨cA BK599 0, cA BK599 1, cA BK599 2, cA BK600 0, cA BK600 1, cA BK600 2⟩ (fun hHeld => ?_)
 clear hK K
 refine normA (N := 21) ?_
 refine oneA 14 24 (lB 20 32767) rfl rfl (fun K hK => ?_)
 refine goes_ Tryd.func43 (by kernel_rfl) rfl #[.string t610, .string t606] (by rfl) rfl rfl zq2 ?_
 with_reducible refine (N1Multiply.calls k t610 t606 t611 _ A8.out).mono ?_
 rintro e w27 ⟨rfl, hb⟩
 refine ⟨_, rfl, ?_⟩
 have n0_ := bB BK599 hb
 have n1_ := bB BK600 hb
 have n2_ := bB BK601 hb
 have n3_ := sB hb
 revert n0_ n1_ n2_ n3_
 clear BK599 BK600 BK601 HB
 intro BK599 BK600 BK601 HB
 (try clear hb); (try clear hb2); (try clear hk); (try clear hi)
 refine hK.out _ _ ⟨cA BK599 0, cA BK599 1, cA BK599 2, cA BK600 0, cA BK600 1, cA BK600 2⟩ (fun hHeld => ?_)
 clear hK K
 refine normA (N := 24) ?_
 refine oneA 15 25 (lB 20 65535) rfl rfl (fun K hK => ?_)
 refine goes_ Tryd.func49 (by kernel_rfl) rfl #[.bool (t602 != t605), .string t609, .string t611] (by rfl) rfl rfl zq2 ?_
 with_reducible refine (Q1Make.calls k (t602 != t605) t609 t611 t612 t613 t614 t615 _ A9.out).mono ?_
 rintro e w28 ⟨rfl, hb⟩
 refine ⟨_, rfl, ?_⟩
 have n0_ := bB BK599 hb
 have n1_ := bB BK600 hb
 have n2_ := bB BK601 hb
 have n3_ := sB hb
 revert n0_ n1_ n2_ n3_
 clear BK599 BK600 BK601 HB
 intro BK599 BK600 BK601 HB
 (try clear hb); (try clear hb2); (try clear hk); (try clear hi)
 refine hK.out _ _ ⟨cA BK599 0, cA BK599 1, cA BK599 2, cA BK600 0, cA BK600 1, cA BK600 2⟩ (fun hHeld => ?_)
 clear hK K
 refine normA (N := 25) ?_
 refine pureA 16 26 (lB 20 131071) rfl rfl ?_
 refine pureA 17 27 (lB 20 262143) rfl rfl ?_
 refine one_ (i := 18) (N := none) (lB 20 524287) rfl rfl (one_of HT_.out (by kernel_rfl)) (by decide) (fun K hK => ?_)
 have hs29 := cB BK601 0 (.bool false)
 have hfs29 := fB BK601 0
 have hns29_0 := NB599_601.out
 have hns29_1 := NB600_601.out
 have hms29_0 := NB601_599.out
 have hms29_1 := NB601_600.out
 have hs30 := cB BK601 1 (.string (⟨#[]⟩ : ByteArray))
 have hfs30 := fB BK601 1
 have hns30_0 := NB599_601.out
 have hns30_1 := NB600_601.out
 have hms30_0 := NB601_599.out
 have hms30_1 := NB601_600.out
 have hs31 := cB BK601 2 (.string (⟨#[]⟩ : ByteArray))
 have hfs31 := fB BK601 2
 have hns31_0 := NB599_601.out
 have hns31_1 := NB600_601.out
 have hms31_0 := NB601_599.out
 have hms31_1 := NB601_600.out
 refine skip_ (w1 := ?_) (by rfl) rfl ?_ ?_
 rotate_left
 ·go_simp
  rfl
 refine hK.out _ _ ⟨((cell_far (p := ⟨gb601, _, none⟩) NB599_601.out _).trans (((cell_far (p := ⟨gb601, _, none⟩) NB599_601.out _).trans (((cell_far (p := ⟨gb601, _, none⟩) NB599_601.out _).trans (hHeld.1)))))), ((cell_far (p := ⟨gb601, _, none⟩) NB599_601.out _).trans (((cell_far (p := ⟨gb601, _, none⟩) NB599_601.out _).trans (((cell_far (p := ⟨gb601, _, none⟩) NB599_601.out _).trans (hHeld.2.1)))))), ((cell_far (p := ⟨gb601, _, none⟩) NB599_601.out _).trans (((cell_far (p := ⟨gb601, _, none⟩) NB599_601.out _).trans (((cell_far (p := ⟨gb601, _, none⟩) NB599_601.out _).trans (hHeld.2.2.1)))))), ((cell_far (p := ⟨gb601, _, none⟩) NB600_601.out _).trans (((cell_far (p := ⟨gb601, _, none⟩) NB600_601.out _).trans (((cell_far (p := ⟨gb601, _, none⟩) NB600_601.out _).trans (hHeld.2.2.2.1)))))), ((cell_far (p := ⟨gb601, _, none⟩) NB600_601.out _).trans (((cell_far (p := ⟨gb601, _, none⟩) NB600_601.out _).trans (((cell_far (p := ⟨gb601, _, none⟩) NB600_601.out _).trans (hHeld.2.2.2.2.1)))))), ((cell_far (p := ⟨gb601, _, none⟩) NB600_601.out _).trans (((cell_far (p := ⟨gb601, _, none⟩) NB600_601.out _).trans (((cell_far (p := ⟨gb601, _, none⟩) NB600_601.out _).trans (hHeld.2.2.2.2.2))))))⟩ (fun hHeld => ?_)
 clear hK K
 refine pureA 19 5 (lB 20 1048575) rfl rfl ?_
 refine done_ (done_of HT_.out (by kernel_rfl)) ?_
 try go_wp2
 refine bodyPost_ret (results_ct rfl _ _ gb601 29 #[.bool t612, .string t613, .string t614] (0, 0) _ rfl (bC BK601) Tryd.underlying29 rfl (by kernel_rfl)) rfl ?_
 exact ⟨zE, zH⟩
def Q1magnitude.f (k : Nat) (a0 : Int) : Option (ByteArray) := if a0 < 0 then ((N1FromUint.f k (IntKind.u64.wrap (-(IntKind.u64.wrap (a0))))).bind fun t616 => (some t616)) else ((N1FromUint.f k (IntKind.u64.wrap (a0))).bind fun t617 => (some t617))
set_option maxHeartbeats 8000000 in
set_option maxRecDepth 100000 in
theorem Q1magnitude.calls (k : Nat) (a0 : Int) (r : ByteArray) (w : World) (h : Q1magnitude.f k a0 = some r) :
 Calls Tryd.prog 48 #[.int .i64 a0] w fun e w' => e = .returned (.string r) ∧ Below w.heap.size w w' := by
 have HB := Aside0.mk (Below.refl w.heap.size w)
 have H : (if a0 < 0 then ((N1FromUint.f k (IntKind.u64.wrap (-(IntKind.u64.wrap (a0))))).bind fun t616 => (some t616)) else ((N1FromUint.f k (IntKind.u64.wrap (a0))).bind fun t617 => (some t617))) = some r := h
 clear h
 by_cases c2 : a0 < 0
 ·rw [if_pos c2] at H
  have c2b0 := decide_eq_true c2
  clear c2
  replace H := bS H
  obtain ⟨t616, A3, H⟩ := H
  obtain rfl := Option.some.inj H
  go_enter Tryd.func48, Tryd.ntmps48
  go_wp2_with (first | (refine goesLA 8 Tryd.func71 #[.int .u64 (IntKind.u64.wrap (-(IntKind.u64.wrap (a0))))] ?_; (with_reducible refine (N1FromUint.calls k (IntKind.u64.wrap (-(IntKind.u64.wrap (a0)))) t616 _ A3.out).mono ?_); rintro e w4 ⟨rfl, hb⟩; refine ⟨_, rfl, ?_⟩; have n0_ := sB hb; revert n0_; clear HB; intro HB; (try clear hb); (try clear hb2); (try clear hk); (try clear hi)))
  go_ret
  exact ⟨zE, zH⟩
 ·rw [if_neg c2] at H
  have c2b0 := decide_eq_false c2
  clear c2
  replace H := bS H
  obtain ⟨t617, A5, H⟩ := H
  obtain rfl := Option.some.inj H
  go_enter Tryd.func48, Tryd.ntmps48
  go_wp2_with (first | (refine goesLA 11 Tryd.func71 #[.int .u64 (IntKind.u64.wrap (a0))] ?_; (with_reducible refine (N1FromUint.calls k (IntKind.u64.wrap (a0)) t617 _ A5.out).mono ?_); rintro e w6 ⟨rfl, hb⟩; refine ⟨_, rfl, ?_⟩; have n0_ := sB hb; revert n0_; clear HB; intro HB; (try clear hb); (try clear hb2); (try clear hk); (try clear hi)))
  go_ret
  exact ⟨zE, zH⟩
def Q1Int.f (k : Nat) (a0 : Int) : Option (Bool × ByteArray × ByteArray) := (Q1magnitude.f k a0).bind fun t619 => ((Q1reduced.f k (decide (a0 < 0)) t619 (⟨#[1]⟩ : ByteArray)).bind fun bt620 => (some (bt620.1, bt620.2.1, bt620.2.2)))
set_option maxHeartbeats 8000000 in
set_option maxRecDepth 100000 in
theorem Q1Int.calls (k : Nat) (a0 : Int) (r1 : Bool) (r2 : ByteArray) (r3 : ByteArray) (w : World) (h : Q1Int.f k a0 = some (r1, r2, r3)) :
 Calls Tryd.prog 24 #[.int .i64 a0] w fun e w' => e = .returned (.agg #[.bool r1, .string r2, .string r3]) ∧ Below w.heap.size w w' := by
 have hu29 := Tryd.underlying29
 have HB := Aside0.mk (Below.refl w.heap.size w)
 have H : ((Q1magnitude.f k a0).bind fun t619 => ((Q1reduced.f k (decide (a0 < 0)) t619 (⟨#[1]⟩ : ByteArray)).bind fun bt620 => (some (bt620.1, bt620.2.1, bt620.2.2)))) = some (r1, r2, r3) := h
 clear h
 replace H := bS H
 obtain ⟨t619, A2, H⟩ := H
 replace H := bS H
 obtain ⟨⟨t620, t621, t622⟩, A3, H⟩ := H
 (try dsimp only at H)
 simp only [Option.some.injEq, Prod.mk.injEq] at H
 obtain ⟨rfl, rfl, rfl⟩ := H
 go_enter Tryd.func24, Tryd.ntmps24
 go_wp2_with (first | (refine box_evA 2 #[.bool false, .string (⟨#[]⟩ : ByteArray), .string (⟨#[]⟩ : ByteArray)] 29 ?_; intro gb618 hg w4 hbox hb; obtain ⟨n0_, n1_, n2_, n3_⟩ := bx4 w hbox hb hg; revert n0_ n1_ n2_ n3_; clear HB; intro HB BK618 GW618 GE618; clear hb hbox hg) | (refine goesLA 6 Tryd.func48 #[.int .i64 a0] ?_; (with_reducible refine (Q1magnitude.calls k a0 t619 _ A2.out).mono ?_); rintro e w5 ⟨rfl, hb⟩; refine ⟨_, rfl, ?_⟩; have n0_ := bB BK618 hb; have n1_ := sB hb; revert n0_ n1_; clear BK618 HB; intro BK618 HB; (try clear hb); (try clear hb2); (try clear hk); (try clear hi)) | (refine goesLA 7 Tryd.func42 #[.bool (decide (a0 < 0)), .string t619, .string (⟨#[1]⟩ : ByteArray)] ?_; (with_reducible refine (Q1reduced.calls k (decide (a0 < 0)) t619 (⟨#[1]⟩ : ByteArray) t620 t621 t622 _ A3.out).mono ?_); rintro e w6 ⟨rfl, hb⟩; refine ⟨_, rfl, ?_⟩; have n0_ := bB BK618 hb; have n1_ := sB hb; revert n0_ n1_; clear BK618 HB; intro BK618 HB; (try clear hb); (try clear hb2); (try clear hk); (try clear hi); have hcz7_0 := cB BK618 0 (.bool false); have hcz7_1 := cB BK618 1 (.string (⟨#[]⟩ : ByteArray)); have hcz7_2 := cB BK618 2 (.string (⟨#[]⟩ : ByteArray)); have hfz7_0 := fB BK618 0; have hfz7_1 := fB BK618 1; have hfz7_2 := fB BK618 2))
 refine bodyPost_ret (results_cell_row rfl _ _ gb618 29 #[.bool t620, .string t621, .string t622] (0, 0) _ rfl (bC BK618) Tryd.underlying29 rfl (by kernel_rfl)) rfl ?_
 exact ⟨zE, zH⟩
def R1Valid.j0 : Nat → Bool → Bool → ByteArray → ByteArray → Option (Bool)
 | 0, _, _, _, _ => none
 | k + 1, x21, x624000, x624001, x624002 => if x21 = true then (some false) else (if x624001.toList = ([] : List UInt8) then (if x624000 = true then (some false) else (some (x624002.toList == ([] : List UInt8)))) else (if x624002.toList = ([] : List UInt8) then (some true) else ((R1GCD.f k x624001 x624002).bind fun t626 => (some (t626.toList == ([1] : List UInt8))))))
def R1Valid.f (k : Nat) (a0_0 : Bool) (a0_1 : ByteArray) (a0_2 : ByteArray) : Option (Bool) := (R1Normalize.f k a0_1).bind fun t624 => (if t624.toList = a0_1.toList then ((R1Normalize.f k a0_2).bind fun t625 => (if t625.toList = a0_2.toList then (R1Valid.j0 k (a0_2.toList == ([1] : List UInt8)) a0_0 a0_1 a0_2) else (R1Valid.j0 k true a0_0 a0_1 a0_2))) else (R1Valid.j0 k true a0_0 a0_1 a0_2))
set_option maxHeartbeats 8000000 in
set_option maxRecDepth 100000 in
theorem R1Valid.calls (k : Nat) (a0_0 : Bool) (a0_1 : ByteArray) (a0_2 : ByteArray) (r : Bool) (w : World) (h : R1Valid.f k a0_0 a0_1 a0_2 = some r) :
 Calls Tryd.prog 58 #[.agg #[.bool a0_0, .string a0_1, .string a0_2]] w fun e w' => e = .returned (.bool r) ∧ Below w.heap.size w w' := by
 have hu29 := Tryd.underlying29
 have HB := Aside0.mk (Below.refl w.heap.size w)
 have H : ((R1Normalize.f k a0_1).bind fun t624 => (if t624.toList = a0_1.toList then ((R1Normalize.f k a0_2).bind fun t625 => (if t625.toList = a0_2.toList then (R1Valid.j0 k (a0_2.toList == ([1] : List UInt8)) a0_0 a0_1 a0_2) else (R1Valid.j0 k true a0_0 a0_1 a0_2))) else (R1Valid.j0 k true a0_0 a0_1 a0_2))) = some r := h
 clear h
 have HC2 := Aside0.mk H
 clear H
 go_enter Tryd.func58, Tryd.ntmps58
 go_upto_region 1 with (first | (refine box_evA 1 #[.bool a0_0, .string a0_1, .string a0_2] 29 ?_; intro gb623 hg w3 hbox hb; obtain ⟨n0_, n1_, n2_, n3_⟩ := bx4 w hbox hb hg; revert n0_ n1_ n2_ n3_; clear HB; intro HB BK623 GW623 GE623; clear hb hbox hg))
 repeat (go_quiet (first | (refine box_evA 1 #[.bool a0_0, .string a0_1, .string a0_2] 29 ?_; intro gb623 hg w3 hbox hb; obtain ⟨n0_, n1_, n2_, n3_⟩ := bx4 w hbox hb hg; revert n0_ n1_ n2_ n3_; clear HB; intro HB BK623 GW623 GE623; clear hb hbox hg)); go_upto_region 1 with (first | (refine box_evA 1 #[.bool a0_0, .string a0_1, .string a0_2] 29 ?_; intro gb623 hg w3 hbox hb; obtain ⟨n0_, n1_, n2_, n3_⟩ := bx4 w hbox hb hg; revert n0_ n1_ n2_ n3_; clear HB; intro HB BK623 GW623 GE623; clear hb hbox hg)))
 (try simp only [Act.put, List.setIfInBounds_toArray, List.set_cons_zero, List.set_cons_succ])
 go_cut [21] (fun v21 wc => ∃ (kq : Nat) (x21_1 : Bool), v21 = .bool x21_1 ∧ Aside0 (R1Valid.j0 kq x21_1 a0_0 a0_1 a0_2 = some r) ∧ Aside0 (kq ≤ k) ∧ Aside0 (wc.heap[gb623]? = some (.cells #[.bool a0_0, .string a0_1, .string a0_2] 29 (0, 0))) ∧ Aside0 (Below w.heap.size w wc))
 case first =>
  have H := HC2.out
  clear HC2
  replace H := bS H
  obtain ⟨t624, A4, H⟩ := H
  by_cases c5 : t624.toList = a0_1.toList
  ·rw [if_pos c5] at H
   have c5b0 := beq_iff_eq.mpr c5
   have c5b1 : (t624.toList != a0_1.toList) = false := bne_eq_false_iff_eq.mpr c5
   clear c5
   (first | rw [c5b0] | (simp only [i64_w, i32_w]; rw [c5b0]) | rw [c5b1] | skip)
   replace H := bS H
   obtain ⟨t625, A6, H⟩ := H
   by_cases c7 : t625.toList = a0_2.toList
   ·rw [if_pos c7] at H
    have c7b0 := beq_iff_eq.mpr c7
    have c7b1 : (t625.toList != a0_2.toList) = false := bne_eq_false_iff_eq.mpr c7
    clear c7
    have H' := Aside0.mk H
    clear H
    have hcz8_0 := cB BK623 0 (.bool a0_0)
    have hcz8_1 := cB BK623 1 (.string a0_1)
    have hcz8_2 := cB BK623 2 (.string a0_2)
    have hfz8_0 := fB BK623 0
    have hfz8_1 := fB BK623 1
    have hfz8_2 := fB BK623 2
    go_wp2_with (first | (go_at_call 79; (with_reducible refine (R1Normalize.calls k a0_1 t624 _ A4.out).mono ?_); rintro e w' ⟨rfl, ⟨nd, rfl⟩⟩; (try first | exact ⟨rfl, _, World.drewN_drewN _ _ _⟩ | exact ⟨rfl, _, Eq.trans (World.drewN_drewN _ _ _) (congrArg (World.drewN _) (Nat.add_assoc _ _ _))⟩)) | (go_at_call 79; (with_reducible refine (R1Normalize.calls k a0_2 t625 _ A6.out).mono ?_); rintro e w' ⟨rfl, ⟨nd, rfl⟩⟩; (try first | exact ⟨rfl, _, World.drewN_drewN _ _ _⟩ | exact ⟨rfl, _, Eq.trans (World.drewN_drewN _ _ _) (congrArg (World.drewN _) (Nat.add_assoc _ _ _))⟩)))
    repeat (go_quiet (first | (go_at_call 79; (with_reducible refine (R1Normalize.calls k a0_1 t624 _ A4.out).mono ?_); rintro e w' ⟨rfl, ⟨nd, rfl⟩⟩; (try first | exact ⟨rfl, _, World.drewN_drewN _ _ _⟩ | exact ⟨rfl, _, Eq.trans (World.drewN_drewN _ _ _) (congrArg (World.drewN _) (Nat.add_assoc _ _ _))⟩)) | (go_at_call 79; (with_reducible refine (R1Normalize.calls k a0_2 t625 _ A6.out).mono ?_); rintro e w' ⟨rfl, ⟨nd, rfl⟩⟩; (try first | exact ⟨rfl, _, World.drewN_drewN _ _ _⟩ | exact ⟨rfl, _, Eq.trans (World.drewN_drewN _ _ _) (congrArg (World.drewN _) (Nat.add_assoc _ _ _))⟩))); try go_wp2_with (first | (go_at_call 79; (with_reducible refine (R1Normalize.calls k a0_1 t624 _ A4.out).mono ?_); rintro e w' ⟨rfl, ⟨nd, rfl⟩⟩; (try first | exact ⟨rfl, _, World.drewN_drewN _ _ _⟩ | exact ⟨rfl, _, Eq.trans (World.drewN_drewN _ _ _) (congrArg (World.drewN _) (Nat.add_assoc _ _ _))⟩)) | (go_at_call 79; (with_reducible refine (R1Normalize.calls k a0_2 t625 _ A6.out).mono ?_); rintro e w' ⟨rfl, ⟨nd, rfl⟩⟩; (try first | exact ⟨rfl, _, World.drewN_drewN _ _ _⟩ | exact ⟨rfl, _, Eq.trans (World.drewN_drewN _ _ _) (congrArg (World.drewN _) (Nat.add_assoc _ _ _))⟩))))
    go_meet
    case rel => exact ⟨_, ((a0_2.toList == ([1] : List UInt8))), zq1, H', ⟨by first | omega | exact Nat.le_refl _⟩, ⟨bC BK623⟩, ⟨zH⟩⟩
   ·rw [if_neg c7] at H
    have c7b0 := beq_eq_false_iff_ne.mpr c7
    have c7b1 := bne_iff_ne.mpr c7
    have H' := Aside0.mk H
    clear H
    have hcz9_0 := cB BK623 0 (.bool a0_0)
    have hcz9_1 := cB BK623 1 (.string a0_1)
    have hcz9_2 := cB BK623 2 (.string a0_2)
    have hfz9_0 := fB BK623 0
    have hfz9_1 := fB BK623 1
    have hfz9_2 := fB BK623 2
    go_wp2_with (first | (go_at_call 79; (with_reducible refine (R1Normalize.calls k a0_1 t624 _ A4.out).mono ?_); rintro e w' ⟨rfl, ⟨nd, rfl⟩⟩; (try first | exact ⟨rfl, _, World.drewN_drewN _ _ _⟩ | exact ⟨rfl, _, Eq.trans (World.drewN_drewN _ _ _) (congrArg (World.drewN _) (Nat.add_assoc _ _ _))⟩)) | (go_at_call 79; (with_reducible refine (R1Normalize.calls k a0_2 t625 _ A6.out).mono ?_); rintro e w' ⟨rfl, ⟨nd, rfl⟩⟩; (try first | exact ⟨rfl, _, World.drewN_drewN _ _ _⟩ | exact ⟨rfl, _, Eq.trans (World.drewN_drewN _ _ _) (congrArg (World.drewN _) (Nat.add_assoc _ _ _))⟩)))
    repeat (go_quiet (first | (go_at_call 79; (with_reducible refine (R1Normalize.calls k a0_1 t624 _ A4.out).mono ?_); rintro e w' ⟨rfl, ⟨nd, rfl⟩⟩; (try first | exact ⟨rfl, _, World.drewN_drewN _ _ _⟩ | exact ⟨rfl, _, Eq.trans (World.drewN_drewN _ _ _) (congrArg (World.drewN _) (Nat.add_assoc _ _ _))⟩)) | (go_at_call 79; (with_reducible refine (R1Normalize.calls k a0_2 t625 _ A6.out).mono ?_); rintro e w' ⟨rfl, ⟨nd, rfl⟩⟩; (try first | exact ⟨rfl, _, World.drewN_drewN _ _ _⟩ | exact ⟨rfl, _, Eq.trans (World.drewN_drewN _ _ _) (congrArg (World.drewN _) (Nat.add_assoc _ _ _))⟩))); try go_wp2_with (first | (go_at_call 79; (with_reducible refine (R1Normalize.calls k a0_1 t624 _ A4.out).mono ?_); rintro e w' ⟨rfl, ⟨nd, rfl⟩⟩; (try first | exact ⟨rfl, _, World.drewN_drewN _ _ _⟩ | exact ⟨rfl, _, Eq.trans (World.drewN_drewN _ _ _) (congrArg (World.drewN _) (Nat.add_assoc _ _ _))⟩)) | (go_at_call 79; (with_reducible refine (R1Normalize.calls k a0_2 t625 _ A6.out).mono ?_); rintro e w' ⟨rfl, ⟨nd, rfl⟩⟩; (try first | exact ⟨rfl, _, World.drewN_drewN _ _ _⟩ | exact ⟨rfl, _, Eq.trans (World.drewN_drewN _ _ _) (congrArg (World.drewN _) (Nat.add_assoc _ _ _))⟩))))
    go_meet
    case rel => exact ⟨_, (true), zq1, H', ⟨by first | omega | exact Nat.le_refl _⟩, ⟨bC BK623⟩, ⟨zH⟩⟩
  ·rw [if_neg c5] at H
   have c5b0 := beq_eq_false_iff_ne.mpr c5
   have c5b1 := bne_iff_ne.mpr c5
   (first | rw [c5b0] | (simp only [i64_w, i32_w]; rw [c5b0]) | rw [c5b1] | skip)
   have H' := Aside0.mk H
   clear H
   have hcz10_0 := cB BK623 0 (.bool a0_0)
   have hcz10_1 := cB BK623 1 (.string a0_1)
   have hcz10_2 := cB BK623 2 (.string a0_2)
   have hfz10_0 := fB BK623 0
   have hfz10_1 := fB BK623 1
   have hfz10_2 := fB BK623 2
   go_wp2_with (first | (go_at_call 79; (with_reducible refine (R1Normalize.calls k a0_1 t624 _ A4.out).mono ?_); rintro e w' ⟨rfl, ⟨nd, rfl⟩⟩; (try first | exact ⟨rfl, _, World.drewN_drewN _ _ _⟩ | exact ⟨rfl, _, Eq.trans (World.drewN_drewN _ _ _) (congrArg (World.drewN _) (Nat.add_assoc _ _ _))⟩)))
   repeat (go_quiet (first | (go_at_call 79; (with_reducible refine (R1Normalize.calls k a0_1 t624 _ A4.out).mono ?_); rintro e w' ⟨rfl, ⟨nd, rfl⟩⟩; (try first | exact ⟨rfl, _, World.drewN_drewN _ _ _⟩ | exact ⟨rfl, _, Eq.trans (World.drewN_drewN _ _ _) (congrArg (World.drewN _) (Nat.add_assoc _ _ _))⟩))); try go_wp2_with (first | (go_at_call 79; (with_reducible refine (R1Normalize.calls k a0_1 t624 _ A4.out).mono ?_); rintro e w' ⟨rfl, ⟨nd, rfl⟩⟩; (try first | exact ⟨rfl, _, World.drewN_drewN _ _ _⟩ | exact ⟨rfl, _, Eq.trans (World.drewN_drewN _ _ _) (congrArg (World.drewN _) (Nat.add_assoc _ _ _))⟩))))
   go_meet
   case rel => exact ⟨_, (true), zq1, H', ⟨by first | omega | exact Nat.le_refl _⟩, ⟨bC BK623⟩, ⟨zH⟩⟩
 case rest =>
  clear HC2
  obtain ⟨kq, x21_1, rfl, HA, HJ1, BK623, HB⟩ := hcut
  cases kq with
  | zero => exact absurd HA.out (by simp [R1Valid.j0])
  | succ kj1 =>
   have H := HA.out
   clear HA
   simp only [R1Valid.j0] at H
   by_cases c11 : x21_1 = true
   ·subst c11
    have H1 : (some false) = some r := by rw [if_pos rfl] at H; exact H
    clear H
    have H := H1
    clear H1
    obtain rfl := Option.some.inj H
    go_wp2
    repeat (go_quiet (fail); try go_wp2)
    go_ret
    exact ⟨zE, zH⟩
   ·replace c11 := Bool.eq_false_iff.mpr c11
    subst c11
    have H1 : (if a0_1.toList = ([] : List UInt8) then (if a0_0 = true then (some false) else (some (a0_2.toList == ([] : List UInt8)))) else (if a0_2.toList = ([] : List UInt8) then (some true) else ((R1GCD.f kj1 a0_1 a0_2).bind fun t626 => (some (t626.toList == ([1] : List UInt8)))))) = some r := by rw [if_neg (show ¬ (false = true) by decide)] at H; exact H
    clear H
    have H := H1
    clear H1
    by_cases c12 : a0_1.toList = ([] : List UInt8)
    ·rw [if_pos c12] at H
     have c12b0 := beq_iff_eq.mpr c12
     have c12b1 : (a0_1.toList != ([] : List UInt8)) = false := bne_eq_false_iff_eq.mpr c12
     clear c12
     by_cases c13 : a0_0 = true
     ·subst c13
      have H1 : (some false) = some r := by rw [if_pos rfl] at H; exact H
      clear H
      have H := H1
      clear H1
      obtain rfl := Option.some.inj H
      have hcz14_0 := cB BK623 0 (.bool true)
      have hcz14_1 := cB BK623 1 (.string a0_1)
      have hcz14_2 := cB BK623 2 (.string a0_2)
      have hfz14_0 := fB BK623 0
      have hfz14_1 := fB BK623 1
      have hfz14_2 := fB BK623 2
      go_wp2
      repeat (go_quiet (fail); try go_wp2)
      go_ret
      exact ⟨zE, zH⟩
     ·replace c13 := Bool.eq_false_iff.mpr c13
      subst c13
      have H1 : (some (a0_2.toList == ([] : List UInt8))) = some r := by rw [if_neg (show ¬ (false = true) by decide)] at H; exact H
      clear H
      have H := H1
      clear H1
      obtain rfl := Option.some.inj H
      have hcz15_0 := cB BK623 0 (.bool false)
      have hcz15_1 := cB BK623 1 (.string a0_1)
      have hcz15_2 := cB BK623 2 (.string a0_2)
      have hfz15_0 := fB BK623 0
      have hfz15_1 := fB BK623 1
      have hfz15_2 := fB BK623 2
      go_wp2
      repeat (go_quiet (fail); try go_wp2)
      go_ret
      exact ⟨zE, zH⟩
    ·rw [if_neg c12] at H
     have c12b0 := beq_eq_false_iff_ne.mpr c12
     have c12b1 := bne_iff_ne.mpr c12
     by_cases c16 : a0_2.toList = ([] : List UInt8)
     ·rw [if_pos c16] at H
      have c16b0 := beq_iff_eq.mpr c16
      have c16b1 : (a0_2.toList != ([] : List UInt8)) = false := bne_eq_false_iff_eq.mpr c16
      clear c16
      obtain rfl := Option.some.inj H
      have hcz17_0 := cB BK623 0 (.bool a0_0)
      have hcz17_1 := cB BK623 1 (.string a0_1)
      have hcz17_2 := cB BK623 2 (.string a0_2)
      have hfz17_0 := fB BK623 0
      have hfz17_1 := fB BK623 1
      have hfz17_2 := fB BK623 2
      go_wp2
      repeat (go_quiet (fail); try go_wp2)
      go_ret
      exact ⟨zE, zH⟩
     ·rw [if_neg c16] at H
      have c16b0 := beq_eq_false_iff_ne.mpr c16
      have c16b1 := bne_iff_ne.mpr c16
      replace H := bS H
      obtain ⟨t626, A18, H⟩ := H
      obtain rfl := Option.some.inj H
      have hcz19_0 := cB BK623 0 (.bool a0_0)
      have hcz19_1 := cB BK623 1 (.string a0_1)
      have hcz19_2 := cB BK623 2 (.string a0_2)
      have hfz19_0 := fB BK623 0
      have hfz19_1 := fB BK623 1
      have hfz19_2 := fB BK623 2
      go_wp2_with (first | (go_at_call 80; (with_reducible refine (R1GCD.calls kj1 a0_1 a0_2 t626 _ A18.out).mono ?_); rintro e w20 ⟨rfl, hb⟩; have n0_ := bB BK623 hb; have n1_ := sB hb; revert n0_ n1_; clear BK623 HB; intro BK623 HB; (try clear hb); (try clear hb2); (try clear hk); (try clear hi)))
      repeat (go_quiet (first | (go_at_call 80; (with_reducible refine (R1GCD.calls kj1 a0_1 a0_2 t626 _ A18.out).mono ?_); rintro e w20 ⟨rfl, hb⟩; have n0_ := bB BK623 hb; have n1_ := sB hb; revert n0_ n1_; clear BK623 HB; intro BK623 HB; (try clear hb); (try clear hb2); (try clear hk); (try clear hi))); try go_wp2_with (first | (go_at_call 80; (with_reducible refine (R1GCD.calls kj1 a0_1 a0_2 t626 _ A18.out).mono ?_); rintro e w20 ⟨rfl, hb⟩; have n0_ := bB BK623 hb; have n1_ := sB hb; revert n0_ n1_; clear BK623 HB; intro BK623 HB; (try clear hb); (try clear hb2); (try clear hk); (try clear hi))))
      go_ret
      exact ⟨zE, zH⟩
def R1Fix.f (k : Nat) (a0_0 : Bool) (a0_1 : ByteArray) (a0_2 : ByteArray) : Option (Bool × ByteArray × ByteArray) := (R1Valid.f k a0_0 a0_1 a0_2).bind fun t629 => (if t629 = true then (some (a0_0, a0_1, a0_2)) else (some (false, (⟨#[]⟩ : ByteArray), (⟨#[]⟩ : ByteArray))))
set_option maxHeartbeats 8000000 in
set_option maxRecDepth 100000 in
theorem R1Fix.calls (k : Nat) (a0_0 : Bool) (a0_1 : ByteArray) (a0_2 : ByteArray) (r1 : Bool) (r2 : ByteArray) (r3 : ByteArray) (w : World) (h : R1Fix.f k a0_0 a0_1 a0_2 = some (r1, r2, r3)) :
 Calls Tryd.prog 38 #[.agg #[.bool a0_0, .string a0_1, .string a0_2]] w fun e w' => e = .returned (.agg #[.bool r1, .string r2, .string r3]) ∧ Below w.heap.size w w' := by
 have hu29 := Tryd.underlying29
 have HB := Aside0.mk (Below.refl w.heap.size w)
 have H : ((R1Valid.f k a0_0 a0_1 a0_2).bind fun t629 => (if t629 = true then (some (a0_0, a0_1, a0_2)) else (some (false, (⟨#[]⟩ : ByteArray), (⟨#[]⟩ : ByteArray))))) = some (r1, r2, r3) := h
 clear h
 replace H := bS H
 obtain ⟨t629, A2, H⟩ := H
 by_cases c3 : t629 = true
 ·subst c3
  have H1 : (some (a0_0, a0_1, a0_2)) = some (r1, r2, r3) := by rw [if_pos rfl] at H; exact H
  clear H
  have H := H1
  clear H1
  simp only [Option.some.injEq, Prod.mk.injEq] at H
  obtain ⟨rfl, rfl, rfl⟩ := H
  go_enter Tryd.func38, Tryd.ntmps38
  go_wp2_with (first | (refine box_evA 1 #[.bool a0_0, .string a0_1, .string a0_2] 29 ?_; intro gb627 hg w4 hbox hb; obtain ⟨n0_, n1_, n2_, n3_⟩ := bx4 w hbox hb hg; revert n0_ n1_ n2_ n3_; clear HB; intro HB BK627 GW627 GE627; clear hb hbox hg) | (refine box_evA 2 #[.bool false, .string (⟨#[]⟩ : ByteArray), .string (⟨#[]⟩ : ByteArray)] 29 ?_; intro gb628 hg w5 hbox hb; have n0_ := bB BK627 hb; have n1_ := sB hb; have n2_ := Aside0.mk (hbox); have n3_ := wE w hg; have n4_ := wE w hg; have n5_ := Aside0.mk (nL BK627 hg); have n6_ := Aside0.mk (nG BK627 hg); revert n0_ n1_ n2_ n3_ n4_ n5_ n6_; clear BK627 HB; intro BK627 HB BK628 GW628 GE628 NB627_628 NB628_627; clear hb hbox hg; have hnb6 := NB627_628.out; have hnc6 := NB628_627.out; have hcz7_0 := cB BK627 0 (.bool a0_0); have hcz7_1 := cB BK627 1 (.string a0_1); have hcz7_2 := cB BK627 2 (.string a0_2); have hfz7_0 := fB BK627 0; have hfz7_1 := fB BK627 1; have hfz7_2 := fB BK627 2) | (refine goesLA 4 Tryd.func58 #[.agg #[.bool a0_0, .string a0_1, .string a0_2]] ?_; (with_reducible refine (R1Valid.calls k a0_0 a0_1 a0_2 true _ A2.out).mono ?_); rintro e w8 ⟨rfl, hb⟩; refine ⟨_, rfl, ?_⟩; have n0_ := bB BK627 hb; have n1_ := bB BK628 hb; have n2_ := sB hb; revert n0_ n1_ n2_; clear BK627 BK628 HB; intro BK627 BK628 HB; (try clear hb); (try clear hb2); (try clear hk); (try clear hi); have hcz9_0 := cB BK627 0 (.bool a0_0); have hcz9_1 := cB BK627 1 (.string a0_1); have hcz9_2 := cB BK627 2 (.string a0_2); have hfz9_0 := fB BK627 0; have hfz9_1 := fB BK627 1; have hfz9_2 := fB BK627 2; have hcz10_0 := cB BK628 0 (.bool false); have hcz10_1 := cB BK628 1 (.string (⟨#[]⟩ : ByteArray)); have hcz10_2 := cB BK628 2 (.string (⟨#[]⟩ : ByteArray)); have hfz10_0 := fB BK628 0; have hfz10_1 := fB BK628 1; have hfz10_2 := fB BK628 2))
  refine bodyPost_ret (results_cell_row rfl _ _ gb628 29 #[.bool a0_0, .string a0_1, .string a0_2] (0, 0) _ rfl (bC BK628) Tryd.underlying29 rfl (by kernel_rfl)) rfl ?_
  exact ⟨zE, zH⟩
 ·replace c3 := Bool.eq_false_iff.mpr c3
  subst c3
  have H1 : (some (false, (⟨#[]⟩ : ByteArray), (⟨#[]⟩ : ByteArray))) = some (r1, r2, r3) := by rw [if_neg (show ¬ (false = true) by decide)] at H; exact H
  clear H
  have H := H1
  clear H1
  simp only [Option.some.injEq, Prod.mk.injEq] at H
  obtain ⟨rfl, rfl, rfl⟩ := H
  go_enter Tryd.func38, Tryd.ntmps38
  go_wp2_with (first | (refine box_evA 1 #[.bool a0_0, .string a0_1, .string a0_2] 29 ?_; intro gb627 hg w11 hbox hb; obtain ⟨n0_, n1_, n2_, n3_⟩ := bx4 w hbox hb hg; revert n0_ n1_ n2_ n3_; clear HB; intro HB BK627 GW627 GE627; clear hb hbox hg) | (refine box_evA 2 #[.bool false, .string (⟨#[]⟩ : ByteArray), .string (⟨#[]⟩ : ByteArray)] 29 ?_; intro gb628 hg w12 hbox hb; have n0_ := bB BK627 hb; have n1_ := sB hb; have n2_ := Aside0.mk (hbox); have n3_ := wE w hg; have n4_ := wE w hg; have n5_ := Aside0.mk (nL BK627 hg); have n6_ := Aside0.mk (nG BK627 hg); revert n0_ n1_ n2_ n3_ n4_ n5_ n6_; clear BK627 HB; intro BK627 HB BK628 GW628 GE628 NB627_628 NB628_627; clear hb hbox hg; have hnb13 := NB627_628.out; have hnc13 := NB628_627.out; have hcz14_0 := cB BK627 0 (.bool a0_0); have hcz14_1 := cB BK627 1 (.string a0_1); have hcz14_2 := cB BK627 2 (.string a0_2); have hfz14_0 := fB BK627 0; have hfz14_1 := fB BK627 1; have hfz14_2 := fB BK627 2) | (refine goesLA 4 Tryd.func58 #[.agg #[.bool a0_0, .string a0_1, .string a0_2]] ?_; (with_reducible refine (R1Valid.calls k a0_0 a0_1 a0_2 false _ A2.out).mono ?_); rintro e w15 ⟨rfl, hb⟩; refine ⟨_, rfl, ?_⟩; have n0_ := bB BK627 hb; have n1_ := bB BK628 hb; have n2_ := sB hb; revert n0_ n1_ n2_; clear BK627 BK628 HB; intro BK627 BK628 HB; (try clear hb); (try clear hb2); (try clear hk); (try clear hi); have hcz16_0 := cB BK628 0 (.bool false); have hcz16_1 := cB BK628 1 (.string (⟨#[]⟩ : ByteArray)); have hcz16_2 := cB BK628 2 (.string (⟨#[]⟩ : ByteArray)); have hfz16_0 := fB BK628 0; have hfz16_1 := fB BK628 1; have hfz16_2 := fB BK628 2))
  refine bodyPost_ret (results_cell_row rfl _ _ gb628 29 #[.bool false, .string (⟨#[]⟩ : ByteArray), .string (⟨#[]⟩ : ByteArray)] (0, 0) _ rfl (bC BK628) Tryd.underlying29 rfl (by kernel_rfl)) rfl ?_
  exact ⟨zE, zH⟩
end Go.Proofs.YtggfilmdfpmbmaaDoor.QN
end
section
namespace Go.Proofs.YtggfilmdfpmbmaaDoor.QN
open Go.RowKit Go.Proofs.YtggfilmdfpmbmaaDoorW.PrintWords Go.Proofs.YtggfilmdfpmbmaaDoorW.PrintLast Go.Proofs.YtggfilmdfpmbmaaDoorW.PrintMore
attribute [local go_sem] max2_int min2_int max_two min_two max_three min_three max_four min_four   -- for this text's walks alone
set_option linter.unusedVariables false
set_option linter.unusedSimpArgs false
def R1Signum.f (a0_0 : Bool) (a0_1 : ByteArray) (a0_2 : ByteArray) : Option (Int) := if a0_1.toList = ([] : List UInt8) then (some 0) else (if a0_0 = true then (some (-1)) else (some 1))
set_option maxHeartbeats 8000000 in
set_option maxRecDepth 100000 in
theorem R1Signum.calls (a0_0 : Bool) (a0_1 : ByteArray) (a0_2 : ByteArray) (r : Int) (w : World) (h : R1Signum.f a0_0 a0_1 a0_2 = some r) :
 Calls Tryd.prog 53 #[.agg #[.bool a0_0, .string a0_1, .string a0_2]] w fun e w' => e = .returned (.int .i64 r) ∧ Below w.heap.size w w' := by
 have hu29 := Tryd.underlying29
 have HB := Aside0.mk (Below.refl w.heap.size w)
 have H : (if a0_1.toList = ([] : List UInt8) then (some 0) else (if a0_0 = true then (some (-1)) else (some 1))) = some r := h
 clear h
 by_cases c2 : a0_1.toList = ([] : List UInt8)
 ·rw [if_pos c2] at H
  have c2b0 := beq_iff_eq.mpr c2
  have c2b1 : (a0_1.toList != ([] : List UInt8)) = false := bne_eq_false_iff_eq.mpr c2
  clear c2
  obtain rfl := Option.some.inj H
  go_enter Tryd.func53, Tryd.ntmps53
  go_wp2_with (first | (refine box_evA 1 #[.bool a0_0, .string a0_1, .string a0_2] 29 ?_; intro gb630 hg w3 hbox hb; obtain ⟨n0_, n1_, n2_, n3_⟩ := bx4 w hbox hb hg; revert n0_ n1_ n2_ n3_; clear HB; intro HB BK630 GW630 GE630; clear hb hbox hg; have hcz4_0 := cB BK630 0 (.bool a0_0); have hcz4_1 := cB BK630 1 (.string a0_1); have hcz4_2 := cB BK630 2 (.string a0_2); have hfz4_0 := fB BK630 0; have hfz4_1 := fB BK630 1; have hfz4_2 := fB BK630 2))
  go_ret
  exact ⟨zE, zH⟩
 ·rw [if_neg c2] at H
  have c2b0 := beq_eq_false_iff_ne.mpr c2
  have c2b1 := bne_iff_ne.mpr c2
  by_cases c5 : a0_0 = true
  ·subst c5
   have H1 : (some (-1)) = some r := by rw [if_pos rfl] at H; exact H
   clear H
   have H := H1
   clear H1
   obtain rfl := Option.some.inj H
   go_enter Tryd.func53, Tryd.ntmps53
   go_wp2_with (first | (refine box_evA 1 #[.bool true, .string a0_1, .string a0_2] 29 ?_; intro gb630 hg w6 hbox hb; obtain ⟨n0_, n1_, n2_, n3_⟩ := bx4 w hbox hb hg; revert n0_ n1_ n2_ n3_; clear HB; intro HB BK630 GW630 GE630; clear hb hbox hg; have hcz7_0 := cB BK630 0 (.bool true); have hcz7_1 := cB BK630 1 (.string a0_1); have hcz7_2 := cB BK630 2 (.string a0_2); have hfz7_0 := fB BK630 0; have hfz7_1 := fB BK630 1; have hfz7_2 := fB BK630 2))
   go_ret
   exact ⟨zE, zH⟩
  ·replace c5 := Bool.eq_false_iff.mpr c5
   subst c5
   have H1 : (some 1) = some r := by rw [if_neg (show ¬ (false = true) by decide)] at H; exact H
   clear H
   have H := H1
   clear H1
   obtain rfl := Option.some.inj H
   go_enter Tryd.func53, Tryd.ntmps53
   go_wp2_with (first | (refine box_evA 1 #[.bool false, .string a0_1, .string a0_2] 29 ?_; intro gb630 hg w8 hbox hb; obtain ⟨n0_, n1_, n2_, n3_⟩ := bx4 w hbox hb hg; revert n0_ n1_ n2_ n3_; clear HB; intro HB BK630 GW630 GE630; clear hb hbox hg; have hcz9_0 := cB BK630 0 (.bool false); have hcz9_1 := cB BK630 1 (.string a0_1); have hcz9_2 := cB BK630 2 (.string a0_2); have hfz9_0 := fB BK630 0; have hfz9_1 := fB BK630 1; have hfz9_2 := fB BK630 2))
   go_ret
   exact ⟨zE, zH⟩
def R1Sign.f (k : Nat) (a0_0 : Bool) (a0_1 : ByteArray) (a0_2 : ByteArray) : Option (Int) := (R1Fix.f k a0_0 a0_1 a0_2).bind fun bt632 => ((R1Signum.f bt632.1 bt632.2.1 bt632.2.2).bind fun t635 => (some t635))
set_option maxHeartbeats 8000000 in
set_option maxRecDepth 100000 in
theorem R1Sign.calls (k : Nat) (a0_0 : Bool) (a0_1 : ByteArray) (a0_2 : ByteArray) (r : Int) (w : World) (h : R1Sign.f k a0_0 a0_1 a0_2 = some r) :
 Calls Tryd.prog 32 #[.agg #[.bool a0_0, .string a0_1, .string a0_2]] w fun e w' => e = .returned (.int .i64 r) ∧ Below w.heap.size w w' := by
 have hu29 := Tryd.underlying29
 have HB := Aside0.mk (Below.refl w.heap.size w)
 have H : ((R1Fix.f k a0_0 a0_1 a0_2).bind fun bt632 => ((R1Signum.f bt632.1 bt632.2.1 bt632.2.2).bind fun t635 => (some t635))) = some r := h
 clear h
 replace H := bS H
 obtain ⟨⟨t632, t633, t634⟩, A2, H⟩ := H
 (try dsimp only at H)
 replace H := bS H
 obtain ⟨t635, A3, H⟩ := H
 obtain rfl := Option.some.inj H
 go_enter Tryd.func32, Tryd.ntmps32
 go_wp2_with (first | (refine box_evA 1 #[.bool a0_0, .string a0_1, .string a0_2] 29 ?_; intro gb631 hg w4 hbox hb; obtain ⟨n0_, n1_, n2_, n3_⟩ := bx4 w hbox hb hg; revert n0_ n1_ n2_ n3_; clear HB; intro HB BK631 GW631 GE631; clear hb hbox hg; have hcz5_0 := cB BK631 0 (.bool a0_0); have hcz5_1 := cB BK631 1 (.string a0_1); have hcz5_2 := cB BK631 2 (.string a0_2); have hfz5_0 := fB BK631 0; have hfz5_1 := fB BK631 1; have hfz5_2 := fB BK631 2) | (refine goesLA 4 Tryd.func38 #[.agg #[.bool a0_0, .string a0_1, .string a0_2]] ?_; (with_reducible refine (R1Fix.calls k a0_0 a0_1 a0_2 t632 t633 t634 _ A2.out).mono ?_); rintro e w6 ⟨rfl, hb⟩; refine ⟨_, rfl, ?_⟩; have n0_ := bB BK631 hb; have n1_ := sB hb; revert n0_ n1_; clear BK631 HB; intro BK631 HB; (try clear hb); (try clear hb2); (try clear hk); (try clear hi)) | (refine goesLA 5 Tryd.func53 #[.agg #[.bool t632, .string t633, .string t634]] ?_; (with_reducible refine (R1Signum.calls t632 t633 t634 t635 _ A3.out).mono ?_); rintro e w7 ⟨rfl, hb⟩; refine ⟨_, rfl, ?_⟩; have n0_ := bB BK631 hb; have n1_ := sB hb; revert n0_ n1_; clear BK631 HB; intro BK631 HB; (try clear hb); (try clear hb2); (try clear hk); (try clear hi)))
 go_ret
 exact ⟨zE, zH⟩
mutual
def R1reduced.j0 : Nat → Bool → List Int → List Int → List Int → Bool → Option (Bool × ByteArray × ByteArray)
 | 0, _, _, _, _, _ => none
 | k + 1, x0, x1, x2, x7, x24 => if x24 = true then ((R1divide.f k x1 x7).bind fun bt641 => ((R1divide.f k x2 x7).bind fun bt647 => (R1reduced.j1 k x0 bt641.1 bt647.1))) else (R1reduced.j1 k x0 x1 x2)
def R1reduced.j1 : Nat → Bool → List Int → List Int → Option (Bool × ByteArray × ByteArray)
 | 0, _, _, _ => none
 | k + 1, x0, x1, x2 => (R1text.f k x1).bind fun t653 => (if (x2.length : Int) > 1 then ((R1text.f k x2).bind fun t655 => (some (x0, t653, t655))) else (if 0 < (x2.length : Int) then (if (rd x2 0) > 1 then ((R1text.f k x2).bind fun t657 => (some (x0, t653, t657))) else (some (x0, t653, (⟨#[]⟩ : ByteArray)))) else (none)))
end
def R1reduced.f (k : Nat) (a0 : Bool) (l1 : List Int) (l2 : List Int) : Option (Bool × ByteArray × ByteArray) := if (l1.length : Int) = 0 then (some (false, (⟨#[]⟩ : ByteArray), (⟨#[]⟩ : ByteArray))) else ((R1common.f k l1 l2).bind fun t637 => (if (t637.length : Int) > 1 then (R1reduced.j0 k a0 l1 l2 t637 true) else (if 0 < (t637.length : Int) then (R1reduced.j0 k a0 l1 l2 t637 (decide ((rd t637 0) > 1))) else (none))))
set_option maxHeartbeats 8000000 in
set_option maxRecDepth 100000 in
theorem R1reduced.calls (k : Nat) (a0 : Bool) (P1_ : Nat → Prop) (A1 : Option Addr) (c1 : Nat) (l1 : List Int) (P2_ : Nat → Prop) (A2 : Option Addr) (c2 : Nat) (l2 : List Int) (r1 : Bool) (r2 : ByteArray) (r3 : ByteArray) (w : World) (hs1 : Kd.V (Kd.int .u32) 86 w w.heap.size (fun k_ => P1_ k_) (.slice A1 l1.length c1) l1) (hs2 : Kd.V (Kd.int .u32) 86 w w.heap.size (fun k_ => P2_ k_) (.slice A2 l2.length c2) l2) (h : R1reduced.f k a0 l1 l2 = some (r1, r2, r3)) :
 Calls Tryd.prog 54 #[.bool a0, .slice A1 l1.length c1, .slice A2 l2.length c2] w fun e w' => e = .returned (.agg #[.bool r1, .string r2, .string r3]) ∧ Below w.heap.size w w' := by
 have hu29 := Tryd.underlying29
 have HO1 := Aside0.mk (show Kd.V (Kd.int .u32) 86 w w.heap.size (fun k_ => ((P1_ k_ ∨ P2_ k_) ∨ w.heap.size ≤ k_)) (.slice A1 l1.length c1) l1 from Kd.V_mono hs1 (fun k_ hk => .inl (.inl hk)))
 have HO2 := Aside0.mk (show Kd.V (Kd.int .u32) 86 w w.heap.size (fun k_ => ((P1_ k_ ∨ P2_ k_) ∨ w.heap.size ≤ k_)) (.slice A2 l2.length c2) l2 from Kd.V_mono hs2 (fun k_ hk => .inl (.inr hk)))
 have HB := Aside0.mk (Below.refl w.heap.size w)
 have H : (if (l1.length : Int) = 0 then (some (false, (⟨#[]⟩ : ByteArray), (⟨#[]⟩ : ByteArray))) else ((R1common.f k l1 l2).bind fun t637 => (if (t637.length : Int) > 1 then (R1reduced.j0 k a0 l1 l2 t637 true) else (if 0 < (t637.length : Int) then (R1reduced.j0 k a0 l1 l2 t637 (decide ((rd t637 0) > 1))) else (none))))) = some (r1, r2, r3) := h
 clear h
 by_cases c4 : (l1.length : Int) = 0
 ·rw [if_pos c4] at H
  have c4b0 := beq_iff_eq.mpr c4
  have c4b1 : ((l1.length : Int) != 0) = false := bne_eq_false_iff_eq.mpr c4
  clear c4
  simp only [Option.some.injEq, Prod.mk.injEq] at H
  obtain ⟨rfl, rfl, rfl⟩ := H
  go_enter Tryd.func54, Tryd.ntmps54
  go_wp2_with (first | (refine box_evA 6 #[.bool false, .string (⟨#[]⟩ : ByteArray), .string (⟨#[]⟩ : ByteArray)] 29 ?_; intro gb636 hg w5 hbox hb; have n0_ := Aside0.mk (Kd.V_below (Kd.V_elderB zq44 gb636 (Nat.le_of_eq hg.symm)) hb); have n1_ := Aside0.mk (Kd.V_below (Kd.V_elderB zq45 gb636 (Nat.le_of_eq hg.symm)) hb); have n2_ := sB hb; have n3_ := Aside0.mk (hbox); have n4_ := wE w hg; have n5_ := wE w hg; revert n0_ n1_ n2_ n3_ n4_ n5_; clear HO1 HO2 HB; intro HO1 HO2 HB BK636 GW636 GE636; clear hb hbox hg; have hcz6_0 := cB BK636 0 (.bool false); have hcz6_1 := cB BK636 1 (.string (⟨#[]⟩ : ByteArray)); have hcz6_2 := cB BK636 2 (.string (⟨#[]⟩ : ByteArray)); have hfz6_0 := fB BK636 0; have hfz6_1 := fB BK636 1; have hfz6_2 := fB BK636 2))
  refine bodyPost_ret (results_cell_row rfl _ _ gb636 29 #[.bool false, .string (⟨#[]⟩ : ByteArray), .string (⟨#[]⟩ : ByteArray)] (0, 0) _ rfl (bC BK636) Tryd.underlying29 rfl (by kernel_rfl)) rfl ?_
  exact ⟨zE, zH⟩
 ·rw [if_neg c4] at H
  have c4b0 := beq_eq_false_iff_ne.mpr c4
  have c4b1 := bne_iff_ne.mpr c4
  have c4b2 : ¬ (l1 = []) := fun h_ => c4 (by rw [h_]; rfl)
  replace H := bS H
  obtain ⟨t637, A7, H⟩ := H
  have HC8 := Aside0.mk H
  clear H
  go_enter Tryd.func54, Tryd.ntmps54
  go_upto_region 4 with (first | (refine box_evA 6 #[.bool false, .string (⟨#[]⟩ : ByteArray), .string (⟨#[]⟩ : ByteArray)] 29 ?_; intro gb636 hg w9 hbox hb; have n0_ := Aside0.mk (Kd.V_below (Kd.V_elderB zq44 gb636 (Nat.le_of_eq hg.symm)) hb); have n1_ := Aside0.mk (Kd.V_below (Kd.V_elderB zq45 gb636 (Nat.le_of_eq hg.symm)) hb); have n2_ := sB hb; have n3_ := Aside0.mk (hbox); have n4_ := wE w hg; have n5_ := wE w hg; revert n0_ n1_ n2_ n3_ n4_ n5_; clear HO1 HO2 HB; intro HO1 HO2 HB BK636 GW636 GE636; clear hb hbox hg) | (refine goesLA 15 Tryd.func75 #[.slice A1 l1.length c1, .slice A2 l2.length c2] ?_; (with_reducible refine (R1common.calls k (fun k_ => (((P1_ k_ ∨ P2_ k_) ∨ w.heap.size ≤ k_) ∧ k_ ≠ gb636)) _ _ l1 (fun k_ => (((P1_ k_ ∨ P2_ k_) ∨ w.heap.size ≤ k_) ∧ k_ ≠ gb636)) _ _ l2 t637 _ ?side1 ?side2 A7.out).mono ?_); (case side1 => exact HO1.out); (case side2 => exact HO2.out); rintro e w10 ⟨v638, rfl, ho0, hb⟩; refine ⟨_, rfl, ?_⟩; have n0_ := Aside0.mk (Kd.V_below zq44 hb); have n1_ := Aside0.mk (Kd.V_below zq45 hb); have n2_ := Aside0.mk (Kd.V_lower (Kd.V_mono (ok' := fun k_ => ((P1_ k_ ∨ P2_ k_) ∨ w.heap.size ≤ k_) ∧ k_ ≠ gb636) ho0 (fun k_ hk_ => ⟨Or.elim hk_ (fun hs_ => Or.elim hs_ (fun hs_ => hs_.1) (fun hs_ => hs_.1)) (fun hn_ => (.inr (Nat.le_trans (below_size zH) hn_))), Or.elim hk_ (fun hs_ => Or.elim hs_ (fun hs_ => hs_.2) (fun hs_ => hs_.2)) (fun hn_ => (Kd.freshB (g := gb636) (o := .cells #[.bool false, .string (⟨#[]⟩ : ByteArray), .string (⟨#[]⟩ : ByteArray)] 29 (0, 0)) (by (with_reducible repeat (first | refine blk_drewN ?_ _ | refine blk_drew ?_ | refine blk_alloc ?_ _)); exact BK636.out) k_ hn_))⟩)) (below_size zH)); have n3_ := bB BK636 hb; have n4_ := sB hb; revert n0_ n1_ n2_ n3_ n4_; clear HO1 HO2 BK636 HB; intro HO1 HO2 HO639 BK636 HB; (try clear hb); (try clear hb2); (try clear hk); (try clear hi); (try clear ho0)))
  (try simp only [Act.put, List.setIfInBounds_toArray, List.set_cons_zero, List.set_cons_succ])
  go_cut [24] (fun v24 wc => ∃ (kq : Nat) (x24_7 : Bool), v24 = .bool x24_7 ∧ Aside0 (R1reduced.j0 kq a0 l1 l2 t637 x24_7 = some (r1, r2, r3)) ∧ Aside0 (kq ≤ k) ∧ Aside0 (Kd.V (Kd.int .u32) 86 wc w.heap.size (fun k_ => ((P1_ k_ ∨ P2_ k_) ∨ w.heap.size ≤ k_) ∧ k_ ≠ gb636) (.slice A1 l1.length c1) l1) ∧ Aside0 (Kd.V (Kd.int .u32) 86 wc w.heap.size (fun k_ => ((P1_ k_ ∨ P2_ k_) ∨ w.heap.size ≤ k_) ∧ k_ ≠ gb636) (.slice A2 l2.length c2) l2) ∧ Aside0 (Kd.V (Kd.int .u32) 86 wc w.heap.size (fun k_ => ((P1_ k_ ∨ P2_ k_) ∨ w.heap.size ≤ k_) ∧ k_ ≠ gb636) v638 t637) ∧ Aside0 (wc.heap[gb636]? = some (.cells #[.bool false, .string (⟨#[]⟩ : ByteArray), .string (⟨#[]⟩ : ByteArray)] 29 (0, 0))) ∧ Aside0 (Below w.heap.size w wc))
  case first =>
   have H := HC8.out
   clear HC8
   by_cases c11 : (t637.length : Int) > 1
   ·rw [if_pos c11] at H
    have c11b0 := decide_eq_true c11
    have c11b1 : decide (1 < t637.length) = true := decide_eq_true (by omega)
    clear c11
    (first | rw [c11b0] | (simp only [i64_w, i32_w]; rw [c11b0]) | rw [c11b1] | skip)
    have H' := Aside0.mk H
    clear H
    obtain ⟨Ao12, co12, eo12⟩ := Kd.V_slice HO639.out
    subst eo12
    go_wp2
    go_meet
    case rel => exact ⟨_, (true), zq1, H', ⟨by first | omega | exact Nat.le_refl _⟩, ⟨by (with_reducible repeat (first | apply Kd.V_alloc | apply Kd.V_drewN | apply Kd.V_drew)); exact HO1.out⟩, ⟨by (with_reducible repeat (first | apply Kd.V_alloc | apply Kd.V_drewN | apply Kd.V_drew)); exact HO2.out⟩, ⟨by (with_reducible repeat (first | apply Kd.V_alloc | apply Kd.V_drewN | apply Kd.V_drew)); exact HO639.out⟩, ⟨bC BK636⟩, ⟨zH⟩⟩
   ·rw [if_neg c11] at H
    have c11b0 := decide_eq_false c11
    have c11b1 : decide (1 < t637.length) = false := decide_eq_false (by omega)
    clear c11
    (first | rw [c11b0] | (simp only [i64_w, i32_w]; rw [c11b0]) | rw [c11b1] | skip)
    replace H := of_ite H
    obtain ⟨c13, H⟩ := H
    have c13b0 := decide_eq_true c13
    have c13b1 : decide (0 < t637.length) = true := decide_eq_true (by omega)
    clear c13
    have H' := Aside0.mk H
    clear H
    obtain ⟨Ao14, co14, eo14⟩ := Kd.V_slice HO639.out
    subst eo14
    obtain ⟨ad640, e640, hx640_0, p640, q640⟩ := atI (Kd.V_reads' HO639.out).2.2 0
    cases e640
    have qi640 : (0 < t637.length) = True := eq_true (by have := of_eq_true q640; omega)
    (try rw [show ((0 : Int)).toNat = 0 from rfl] at hx640_0)
    (try rw [Addr.add_zero'] at hx640_0)
    go_wp2
    go_meet
    case rel => exact ⟨_, (decide ((rd t637 0) > 1)), zq1, H', ⟨by first | omega | exact Nat.le_refl _⟩, ⟨by (with_reducible repeat (first | apply Kd.V_alloc | apply Kd.V_drewN | apply Kd.V_drew)); exact HO1.out⟩, ⟨by (with_reducible repeat (first | apply Kd.V_alloc | apply Kd.V_drewN | apply Kd.V_drew)); exact HO2.out⟩, ⟨by (with_reducible repeat (first | apply Kd.V_alloc | apply Kd.V_drewN | apply Kd.V_drew)); exact HO639.out⟩, ⟨bC BK636⟩, ⟨zH⟩⟩
  case rest =>
   clear HC8
   (try clear qi6); (try clear c7); (try clear c11); (try clear c11b0); (try clear c11b1); (try clear c13); (try clear c13b0); (try clear c13b1); (try clear hcz6_0); (try clear hcz6_1); (try clear hcz6_2); (try clear hfz6_0); (try clear hfz6_1); (try clear hfz6_2); (try clear hx640_0); (try clear p640); (try clear q640)
   obtain ⟨kq, x24_7, rfl, HA, HJ7, HO_1, HO_2, HO_7, BK636, HB⟩ := hcut
   cases kq with
   | zero => exact absurd HA.out (by simp [R1reduced.j0])
   | succ kj7 =>
    have H := HA.out
    clear HA
    simp only [R1reduced.j0] at H
    have HC15 := Aside0.mk H
    clear H
    go_upto_if 24 with (fail)
    go_cut [1, 2] (fun v1 v2 wc => ∃ (kq : Nat) (x1_14 : List Int) (x2_14 : List Int), Aside0 (R1reduced.j1 kq a0 x1_14 x2_14 = some (r1, r2, r3)) ∧ Aside0 (kq ≤ kj7) ∧ Aside0 (Kd.V (Kd.int .u32) 86 wc w.heap.size (fun k_ => ((P1_ k_ ∨ P2_ k_) ∨ w.heap.size ≤ k_) ∧ k_ ≠ gb636) v1 x1_14) ∧ Aside0 (Kd.V (Kd.int .u32) 86 wc w.heap.size (fun k_ => ((P1_ k_ ∨ P2_ k_) ∨ w.heap.size ≤ k_) ∧ k_ ≠ gb636) v2 x2_14) ∧ Aside0 (wc.heap[gb636]? = some (.cells #[.bool false, .string (⟨#[]⟩ : ByteArray), .string (⟨#[]⟩ : ByteArray)] 29 (0, 0))) ∧ Aside0 (Below w.heap.size w wc))
    case first =>
     have H := HC15.out
     clear HC15
     by_cases c16 : x24_7 = true
     ·subst c16
      have H1 : ((R1divide.f kj7 l1 t637).bind fun bt641 => ((R1divide.f kj7 l2 t637).bind fun bt647 => (R1reduced.j1 kj7 a0 bt641.1 bt647.1))) = some (r1, r2, r3) := by rw [if_pos rfl] at H; exact H
      clear H
      have H := H1
      clear H1
      replace H := bS H
      obtain ⟨⟨t641, t644⟩, A17, H⟩ := H
      (try dsimp only at H)
      replace H := bS H
      obtain ⟨⟨t647, t650⟩, A18, H⟩ := H
      (try dsimp only at H)
      have H' := Aside0.mk H
      clear H
      obtain ⟨Ao19, co19, eo19⟩ := Kd.V_slice HO_7.out
      subst eo19
      go_wp2_with (first | (refine goesLA 28 Tryd.func76 #[.slice A1 l1.length c1, .slice Ao19 t637.length co19] ?_; (with_reducible refine (R1divide.calls kj7 (fun k_ => (((P1_ k_ ∨ P2_ k_) ∨ w.heap.size ≤ k_) ∧ k_ ≠ gb636)) _ _ l1 _ _ t637 t641 t644 _ ?side1 ?side2 ?side3 A17.out).mono ?_); (case side1 => exact HO_1.out); (case side2 => exact sC (Kd.V_reads' HO_7.out).2.2); (case side3 => exact (Kd.V_reads' HO_7.out).2.1); rintro e w20 ⟨v642, v645, rfl, ho0, ho1, hb⟩; refine ⟨_, rfl, ?_⟩; have n0_ := Aside0.mk (Kd.V_below zq8 hb); have n1_ := Aside0.mk (Kd.V_below zq9 hb); have n2_ := Aside0.mk (Kd.V_below (by (with_reducible repeat (first | apply Kd.V_alloc | apply Kd.V_drewN | apply Kd.V_drew)); exact HO_7.out) hb); have n3_ := Aside0.mk (Kd.V_lower (Kd.V_mono (ok' := fun k_ => ((P1_ k_ ∨ P2_ k_) ∨ w.heap.size ≤ k_) ∧ k_ ≠ gb636) ho0 (fun k_ hk_ => ⟨Or.elim hk_ (fun hs_ => hs_.1) (fun hn_ => (.inr (Nat.le_trans (below_size zH) hn_))), Or.elim hk_ (fun hs_ => hs_.2) (fun hn_ => (Kd.freshB (g := gb636) (o := .cells #[.bool false, .string (⟨#[]⟩ : ByteArray), .string (⟨#[]⟩ : ByteArray)] 29 (0, 0)) (by (with_reducible repeat (first | refine blk_drewN ?_ _ | refine blk_drew ?_ | refine blk_alloc ?_ _)); exact BK636.out) k_ hn_))⟩)) (below_size zH)); have n4_ := Aside0.mk (Kd.V_lower (Kd.V_mono (ok' := fun k_ => ((P1_ k_ ∨ P2_ k_) ∨ w.heap.size ≤ k_) ∧ k_ ≠ gb636) ho1 (fun k_ hk_ => ⟨Or.elim hk_ (fun hs_ => hs_.1) (fun hn_ => (.inr (Nat.le_trans (below_size zH) hn_))), Or.elim hk_ (fun hs_ => hs_.2) (fun hn_ => (Kd.freshB (g := gb636) (o := .cells #[.bool false, .string (⟨#[]⟩ : ByteArray), .string (⟨#[]⟩ : ByteArray)] 29 (0, 0)) (by (with_reducible repeat (first | refine blk_drewN ?_ _ | refine blk_drew ?_ | refine blk_alloc ?_ _)); exact BK636.out) k_ hn_))⟩)) (below_size zH)); have n5_ := bB BK636 hb; have n6_ := sB hb; revert n0_ n1_ n2_ n3_ n4_ n5_ n6_; clear HO_1 HO_2 HO_7 BK636 HB; intro HO_1 HO_2 HO_7 HO643 HO646 BK636 HB; (try clear hb); (try clear hb2); (try clear hk); (try clear hi); (try clear ho0); (try clear ho1)) | (refine goesLA 34 Tryd.func76 #[.slice A2 l2.length c2, .slice Ao19 t637.length co19] ?_; (with_reducible refine (R1divide.calls kj7 (fun k_ => (((P1_ k_ ∨ P2_ k_) ∨ w.heap.size ≤ k_) ∧ k_ ≠ gb636)) _ _ l2 _ _ t637 t647 t650 _ ?side1 ?side2 ?side3 A18.out).mono ?_); (case side1 => exact HO_2.out); (case side2 => exact sC (Kd.V_reads' HO_7.out).2.2); (case side3 => exact (Kd.V_reads' HO_7.out).2.1); rintro e w21 ⟨v648, v651, rfl, ho0, ho1, hb⟩; refine ⟨_, rfl, ?_⟩; have n0_ := Aside0.mk (Kd.V_below zq8 hb); have n1_ := Aside0.mk (Kd.V_below zq9 hb); have n2_ := Aside0.mk (Kd.V_below (by (with_reducible repeat (first | apply Kd.V_alloc | apply Kd.V_drewN | apply Kd.V_drew)); exact HO_7.out) hb); have n3_ := Aside0.mk (Kd.V_below (by (with_reducible repeat (first | apply Kd.V_alloc | apply Kd.V_drewN | apply Kd.V_drew)); exact HO643.out) hb); have n4_ := Aside0.mk (Kd.V_below (by (with_reducible repeat (first | apply Kd.V_alloc | apply Kd.V_drewN | apply Kd.V_drew)); exact HO646.out) hb); have n5_ := Aside0.mk (Kd.V_lower (Kd.V_mono (ok' := fun k_ => ((P1_ k_ ∨ P2_ k_) ∨ w.heap.size ≤ k_) ∧ k_ ≠ gb636) ho0 (fun k_ hk_ => ⟨Or.elim hk_ (fun hs_ => hs_.1) (fun hn_ => (.inr (Nat.le_trans (below_size zH) hn_))), Or.elim hk_ (fun hs_ => hs_.2) (fun hn_ => (Kd.freshB (g := gb636) (o := .cells #[.bool false, .string (⟨#[]⟩ : ByteArray), .string (⟨#[]⟩ : ByteArray)] 29 (0, 0)) (by (with_reducible repeat (first | refine blk_drewN ?_ _ | refine blk_drew ?_ | refine blk_alloc ?_ _)); exact BK636.out) k_ hn_))⟩)) (below_size zH)); have n6_ := Aside0.mk (Kd.V_lower (Kd.V_mono (ok' := fun k_ => ((P1_ k_ ∨ P2_ k_) ∨ w.heap.size ≤ k_) ∧ k_ ≠ gb636) ho1 (fun k_ hk_ => ⟨Or.elim hk_ (fun hs_ => hs_.1) (fun hn_ => (.inr (Nat.le_trans (below_size zH) hn_))), Or.elim hk_ (fun hs_ => hs_.2) (fun hn_ => (Kd.freshB (g := gb636) (o := .cells #[.bool false, .string (⟨#[]⟩ : ByteArray), .string (⟨#[]⟩ : ByteArray)] 29 (0, 0)) (by (with_reducible repeat (first | refine blk_drewN ?_ _ | refine blk_drew ?_ | refine blk_alloc ?_ _)); exact BK636.out) k_ hn_))⟩)) (below_size zH)); have n7_ := bB BK636 hb; have n8_ := sB hb; revert n0_ n1_ n2_ n3_ n4_ n5_ n6_ n7_ n8_; clear HO_1 HO_2 HO_7 HO643 HO646 BK636 HB; intro HO_1 HO_2 HO_7 HO643 HO646 HO649 HO652 BK636 HB; (try clear hb); (try clear hb2); (try clear hk); (try clear hi); (try clear ho0); (try clear ho1)))
      go_meet
      case rel => exact ⟨_, (t641), (t647), H', ⟨by have := HJ7.out; first | omega | exact Nat.le_refl _⟩, ⟨by (with_reducible repeat (first | apply Kd.V_alloc | apply Kd.V_drewN | apply Kd.V_drew)); exact HO643.out⟩, ⟨by (with_reducible repeat (first | apply Kd.V_alloc | apply Kd.V_drewN | apply Kd.V_drew)); exact HO649.out⟩, ⟨bC BK636⟩, ⟨zH⟩⟩
     ·replace c16 := Bool.eq_false_iff.mpr c16
      subst c16
      have H1 : (R1reduced.j1 kj7 a0 l1 l2) = some (r1, r2, r3) := by rw [if_neg (show ¬ (false = true) by decide)] at H; exact H
      clear H
      have H := H1
      clear H1
      have H' := Aside0.mk H
      clear H
      go_wp2
      go_meet
      case rel => exact ⟨_, (l1), (l2), H', ⟨by have := HJ7.out; first | omega | exact Nat.le_refl _⟩, ⟨by (with_reducible repeat (first | apply Kd.V_alloc | apply Kd.V_drewN | apply Kd.V_drew)); exact HO_1.out⟩, ⟨by (with_reducible repeat (first | apply Kd.V_alloc | apply Kd.V_drewN | apply Kd.V_drew)); exact HO_2.out⟩, ⟨bC BK636⟩, ⟨zH⟩⟩
    case rest =>
     clear HC15
     (try clear qi6); (try clear c7); (try clear c11); (try clear c11b0); (try clear c11b1); (try clear c13); (try clear c13b0); (try clear c13b1); (try clear c16); (try clear hcz6_0); (try clear hcz6_1); (try clear hcz6_2); (try clear hfz6_0); (try clear hfz6_1); (try clear hfz6_2); (try clear hx640_0); (try clear p2); (try clear p6); (try clear p640); (try clear q6); (try clear q640)
     obtain ⟨kq, x1_14, x2_14, HA, HJ14, HO_1, HO_2, BK636, HB⟩ := hcut
     cases kq with
     | zero => exact absurd HA.out (by simp [R1reduced.j1])
     | succ kj14 =>
      have H := HA.out
      clear HA
      simp only [R1reduced.j1] at H
      replace H := bS H
      obtain ⟨t653, A22, H⟩ := H
      by_cases c23 : (x2_14.length : Int) > 1
      ·rw [if_pos c23] at H
       have c23b0 := decide_eq_true c23
       have c23b1 : decide (1 < x2_14.length) = true := decide_eq_true (by omega)
       clear c23
       replace H := bS H
       obtain ⟨t655, A24, H⟩ := H
       simp only [Option.some.injEq, Prod.mk.injEq] at H
       obtain ⟨rfl, rfl, rfl⟩ := H
       obtain ⟨Ao25, co25, eo25⟩ := Kd.V_slice HO_1.out
       subst eo25
       go_wp2_with (first | (refine goesLA 39 Tryd.func77 #[.slice Ao25 x1_14.length co25] ?_; (with_reducible refine (R1text.calls kj14 _ _ x1_14 t653 _ ?side1 ?side2 A22.out).mono ?_); (case side1 => exact sC (Kd.V_reads' HO_1.out).2.2); (case side2 => exact (Kd.V_reads' HO_1.out).2.1); rintro e w26 ⟨rfl, hb⟩; refine ⟨_, rfl, ?_⟩; have n0_ := Aside0.mk (Kd.V_below zq8 hb); have n1_ := Aside0.mk (Kd.V_below zq9 hb); have n2_ := bB BK636 hb; have n3_ := sB hb; revert n0_ n1_ n2_ n3_; clear HO_1 HO_2 BK636 HB; intro HO_1 HO_2 BK636 HB; (try clear hb); (try clear hb2); (try clear hk); (try clear hi)) | (refine box_evA 8 #[.bool false, .string (⟨#[]⟩ : ByteArray), .string (⟨#[]⟩ : ByteArray)] 29 ?_; intro gb654 hg w27 hbox hb; have n0_ := Aside0.mk (Kd.V_below (Kd.V_elderB zq8 gb654 (Nat.le_of_eq hg.symm)) hb); have n1_ := Aside0.mk (Kd.V_below (Kd.V_elderB zq9 gb654 (Nat.le_of_eq hg.symm)) hb); have n2_ := bB BK636 hb; have n3_ := sB hb; have n4_ := Aside0.mk (hbox); have n5_ := wE w hg; have n6_ := wE w hg; have n7_ := Aside0.mk (nL BK636 hg); have n8_ := Aside0.mk (nG BK636 hg); revert n0_ n1_ n2_ n3_ n4_ n5_ n6_ n7_ n8_; clear HO_1 HO_2 BK636 HB; intro HO_1 HO_2 BK636 HB BK654 GW654 GE654 NB636_654 NB654_636; clear hb hbox hg; have hnb28 := NB654_636.out; have hnc28 := NB636_654.out; have hcz29_0 := cB BK654 0 (.bool false); have hcz29_1 := cB BK654 1 (.string (⟨#[]⟩ : ByteArray)); have hcz29_2 := cB BK654 2 (.string (⟨#[]⟩ : ByteArray)); have hfz29_0 := fB BK654 0; have hfz29_1 := fB BK654 1; have hfz29_2 := fB BK654 2; obtain ⟨Ao30, co30, eo30⟩ := Kd.V_slice HO_2.out; subst eo30) | (refine goesLA 51 Tryd.func77 #[.slice Ao30 x2_14.length co30] ?_; (with_reducible refine (R1text.calls kj14 _ _ x2_14 t655 _ ?side1 ?side2 A24.out).mono ?_); (case side1 => refine (Kd.V_reads' (e := 86) (base := w.heap.size) (ok := fun k_ => ((((P1_ k_ ∨ P2_ k_) ∨ w.heap.size ≤ k_) ∧ k_ ≠ gb636) ∧ k_ ≠ gb654)) (n := x2_14.length) (c := co30) ?_).2.2; exact zq30); (case side2 => exact (Kd.V_reads' HO_2.out).2.1); rintro e w31 ⟨rfl, hb⟩; refine ⟨_, rfl, ?_⟩; have n0_ := Aside0.mk (Kd.V_below zq50 hb); have n1_ := Aside0.mk (Kd.V_below zq30 hb); have n2_ := Aside0.mk (blk_below (bC BK636) hb); have n3_ := Aside0.mk (blk_below (bC BK654) hb); have n4_ := sB hb; revert n0_ n1_ n2_ n3_ n4_; clear HO_1 HO_2 BK636 BK654 HB; intro HO_1 HO_2 BK636 BK654 HB; (try clear hb); (try clear hb2); (try clear hk); (try clear hi); have hcz32_0 := cB BK654 0 (.bool a0); have hcz32_1 := cB BK654 1 (.string t653); have hcz32_2 := cB BK654 2 (.string (⟨#[]⟩ : ByteArray)); have hfz32_0 := fB BK654 0; have hfz32_1 := fB BK654 1; have hfz32_2 := fB BK654 2; have hcz33_0 := cB BK636 0 (.bool false); have hcz33_1 := cB BK636 1 (.string (⟨#[]⟩ : ByteArray)); have hcz33_2 := cB BK636 2 (.string (⟨#[]⟩ : ByteArray)); have hfz33_0 := fB BK636 0; have hfz33_1 := fB BK636 1; have hfz33_2 := fB BK636 2))
       refine bodyPost_ret (results_cell_row rfl _ _ gb636 29 #[.bool a0, .string t653, .string t655] (0, 0) _ rfl (bC BK636) Tryd.underlying29 rfl (by kernel_rfl)) rfl ?_
       exact ⟨zE, zH⟩
      ·rw [if_neg c23] at H
       have c23b0 := decide_eq_false c23
       have c23b1 : decide (1 < x2_14.length) = false := decide_eq_false (by omega)
       clear c23
       replace H := of_ite H
       obtain ⟨c34, H⟩ := H
       have c34b0 := decide_eq_true c34
       have c34b1 : decide (0 < x2_14.length) = true := decide_eq_true (by omega)
       clear c34
       by_cases c35 : (rd x2_14 0) > 1
       ·rw [if_pos c35] at H
        have c35b0 := decide_eq_true c35
        clear c35
        replace H := bS H
        obtain ⟨t657, A36, H⟩ := H
        simp only [Option.some.injEq, Prod.mk.injEq] at H
        obtain ⟨rfl, rfl, rfl⟩ := H
        obtain ⟨Ao37, co37, eo37⟩ := Kd.V_slice HO_1.out
        subst eo37
        go_wp2_with (first | (refine goesLA 39 Tryd.func77 #[.slice Ao37 x1_14.length co37] ?_; (with_reducible refine (R1text.calls kj14 _ _ x1_14 t653 _ ?side1 ?side2 A22.out).mono ?_); (case side1 => exact sC (Kd.V_reads' HO_1.out).2.2); (case side2 => exact (Kd.V_reads' HO_1.out).2.1); rintro e w38 ⟨rfl, hb⟩; refine ⟨_, rfl, ?_⟩; have n0_ := Aside0.mk (Kd.V_below zq8 hb); have n1_ := Aside0.mk (Kd.V_below zq9 hb); have n2_ := bB BK636 hb; have n3_ := sB hb; revert n0_ n1_ n2_ n3_; clear HO_1 HO_2 BK636 HB; intro HO_1 HO_2 BK636 HB; (try clear hb); (try clear hb2); (try clear hk); (try clear hi)) | (refine box_evA 8 #[.bool false, .string (⟨#[]⟩ : ByteArray), .string (⟨#[]⟩ : ByteArray)] 29 ?_; intro gb654 hg w39 hbox hb; have n0_ := Aside0.mk (Kd.V_below (Kd.V_elderB zq8 gb654 (Nat.le_of_eq hg.symm)) hb); have n1_ := Aside0.mk (Kd.V_below (Kd.V_elderB zq9 gb654 (Nat.le_of_eq hg.symm)) hb); have n2_ := bB BK636 hb; have n3_ := sB hb; have n4_ := Aside0.mk (hbox); have n5_ := wE w hg; have n6_ := wE w hg; have n7_ := Aside0.mk (nL BK636 hg); have n8_ := Aside0.mk (nG BK636 hg); revert n0_ n1_ n2_ n3_ n4_ n5_ n6_ n7_ n8_; clear HO_1 HO_2 BK636 HB; intro HO_1 HO_2 BK636 HB BK654 GW654 GE654 NB636_654 NB654_636; clear hb hbox hg; have hnb40 := NB654_636.out; have hnc40 := NB636_654.out; have hcz41_0 := cB BK654 0 (.bool false); have hcz41_1 := cB BK654 1 (.string (⟨#[]⟩ : ByteArray)); have hcz41_2 := cB BK654 2 (.string (⟨#[]⟩ : ByteArray)); have hfz41_0 := fB BK654 0; have hfz41_1 := fB BK654 1; have hfz41_2 := fB BK654 2; obtain ⟨Ao42, co42, eo42⟩ := Kd.V_slice HO_2.out; subst eo42; have p656 : 0 ≤ (0 : Int) := (by omega); have q656 : 0 < (x2_14.length : Int) := of_decide_eq_true zq0; obtain ⟨ad656, e656, hx656_0⟩ := Kd.at_int (Kd.V_reads' HO_2.out).2.2 0 p656 q656; cases e656; have qi656 : (0 < x2_14.length) = True := eq_true (by omega); (try rw [show ((0 : Int)).toNat = 0 from rfl] at hx656_0); (try rw [Addr.add_zero'] at hx656_0); have hn656_0 : ad656.block ≠ gb654 := Kd.foot_ne (Kd.C_foot_ownV HO_2.out (fun _ hk => hk.2)) (by omega) (by decide); have hn656_1 : ad656.block ≠ gb654 := Kd.foot_ne (Kd.C_foot_ownV HO_2.out (fun _ hk => hk.2)) (by omega) (by decide); have hn656_2 : ad656.block ≠ gb654 := Kd.foot_ne (Kd.C_foot_ownV HO_2.out (fun _ hk => hk.2)) (by omega) (by decide); replace hx656_0 := (cell_far (p := ⟨gb654, 0, none⟩) (by first | (rw [add_block]; exact hn656_0) | (show (Addr.add _ _).block ≠ _; rw [add_block]; exact hn656_0) | exact hn656_0) (.bool a0)).trans hx656_0; replace hx656_0 := (cell_far (p := ⟨gb654, 1, none⟩) (by first | (rw [add_block]; exact hn656_1) | (show (Addr.add _ _).block ≠ _; rw [add_block]; exact hn656_1) | exact hn656_1) (.string t653)).trans hx656_0; replace hx656_0 := (cell_far (p := ⟨gb654, 2, none⟩) (by first | (rw [add_block]; exact hn656_2) | (show (Addr.add _ _).block ≠ _; rw [add_block]; exact hn656_2) | exact hn656_2) (.string (⟨#[]⟩ : ByteArray))).trans hx656_0; clear hn656_0; clear hn656_1; clear hn656_2; replace p656 := eq_true p656; replace q656 := eq_true q656) | (refine goesLA 51 Tryd.func77 #[.slice (some ad656) x2_14.length co42] ?_; (with_reducible refine (R1text.calls kj14 _ _ x2_14 t657 _ ?side1 ?side2 A36.out).mono ?_); (case side1 => refine (Kd.V_reads' (e := 86) (base := w.heap.size) (ok := fun k_ => ((((P1_ k_ ∨ P2_ k_) ∨ w.heap.size ≤ k_) ∧ k_ ≠ gb636) ∧ k_ ≠ gb654)) (n := x2_14.length) (c := co42) ?_).2.2; exact zq30); (case side2 => exact (Kd.V_reads' HO_2.out).2.1); rintro e w43 ⟨rfl, hb⟩; refine ⟨_, rfl, ?_⟩; have n0_ := Aside0.mk (Kd.V_below zq50 hb); have n1_ := Aside0.mk (Kd.V_below zq30 hb); have n2_ := Aside0.mk (blk_below (bC BK636) hb); have n3_ := Aside0.mk (blk_below (bC BK654) hb); have n4_ := sB hb; revert n0_ n1_ n2_ n3_ n4_; clear HO_1 HO_2 BK636 BK654 HB; intro HO_1 HO_2 BK636 BK654 HB; (try clear hb); (try clear hb2); (try clear hk); (try clear hi); have hcz44_0 := cB BK654 0 (.bool a0); have hcz44_1 := cB BK654 1 (.string t653); have hcz44_2 := cB BK654 2 (.string (⟨#[]⟩ : ByteArray)); have hfz44_0 := fB BK654 0; have hfz44_1 := fB BK654 1; have hfz44_2 := fB BK654 2; have hcz45_0 := cB BK636 0 (.bool false); have hcz45_1 := cB BK636 1 (.string (⟨#[]⟩ : ByteArray)); have hcz45_2 := cB BK636 2 (.string (⟨#[]⟩ : ByteArray)); have hfz45_0 := fB BK636 0; have hfz45_1 := fB BK636 1; have hfz45_2 := fB BK636 2))
        refine bodyPost_ret (results_cell_row rfl _ _ gb636 29 #[.bool a0, .string t653, .string t657] (0, 0) _ rfl (bC BK636) Tryd.underlying29 rfl (by kernel_rfl)) rfl ?_
        exact ⟨zE, zH⟩
       ·rw [if_neg c35] at H
        have c35b0 := decide_eq_false c35
        clear c35
        simp only [Option.some.injEq, Prod.mk.injEq] at H
        obtain ⟨rfl, rfl, rfl⟩ := H
        obtain ⟨Ao46, co46, eo46⟩ := Kd.V_slice HO_1.out
        subst eo46
        go_wp2_with (first | (refine goesLA 39 Tryd.func77 #[.slice Ao46 x1_14.length co46] ?_; (with_reducible refine (R1text.calls kj14 _ _ x1_14 t653 _ ?side1 ?side2 A22.out).mono ?_); (case side1 => exact sC (Kd.V_reads' HO_1.out).2.2); (case side2 => exact (Kd.V_reads' HO_1.out).2.1); rintro e w47 ⟨rfl, hb⟩; refine ⟨_, rfl, ?_⟩; have n0_ := Aside0.mk (Kd.V_below zq8 hb); have n1_ := Aside0.mk (Kd.V_below zq9 hb); have n2_ := bB BK636 hb; have n3_ := sB hb; revert n0_ n1_ n2_ n3_; clear HO_1 HO_2 BK636 HB; intro HO_1 HO_2 BK636 HB; (try clear hb); (try clear hb2); (try clear hk); (try clear hi)) | (refine box_evA 8 #[.bool false, .string (⟨#[]⟩ : ByteArray), .string (⟨#[]⟩ : ByteArray)] 29 ?_; intro gb654 hg w48 hbox hb; have n0_ := Aside0.mk (Kd.V_below (Kd.V_elderB zq8 gb654 (Nat.le_of_eq hg.symm)) hb); have n1_ := Aside0.mk (Kd.V_below (Kd.V_elderB zq9 gb654 (Nat.le_of_eq hg.symm)) hb); have n2_ := bB BK636 hb; have n3_ := sB hb; have n4_ := Aside0.mk (hbox); have n5_ := wE w hg; have n6_ := wE w hg; have n7_ := Aside0.mk (nL BK636 hg); have n8_ := Aside0.mk (nG BK636 hg); revert n0_ n1_ n2_ n3_ n4_ n5_ n6_ n7_ n8_; clear HO_1 HO_2 BK636 HB; intro HO_1 HO_2 BK636 HB BK654 GW654 GE654 NB636_654 NB654_636; clear hb hbox hg; have hnb49 := NB654_636.out; have hnc49 := NB636_654.out; have hcz50_0 := cB BK654 0 (.bool false); have hcz50_1 := cB BK654 1 (.string (⟨#[]⟩ : ByteArray)); have hcz50_2 := cB BK654 2 (.string (⟨#[]⟩ : ByteArray)); have hfz50_0 := fB BK654 0; have hfz50_1 := fB BK654 1; have hfz50_2 := fB BK654 2; obtain ⟨Ao51, co51, eo51⟩ := Kd.V_slice HO_2.out; subst eo51; have p656 : 0 ≤ (0 : Int) := (by omega); have q656 : 0 < (x2_14.length : Int) := of_decide_eq_true zq0; obtain ⟨ad656, e656, hx656_0⟩ := Kd.at_int (Kd.V_reads' HO_2.out).2.2 0 p656 q656; cases e656; have qi656 : (0 < x2_14.length) = True := eq_true (by omega); (try rw [show ((0 : Int)).toNat = 0 from rfl] at hx656_0); (try rw [Addr.add_zero'] at hx656_0); have hn656_0 : ad656.block ≠ gb654 := Kd.foot_ne (Kd.C_foot_ownV HO_2.out (fun _ hk => hk.2)) (by omega) (by decide); have hn656_1 : ad656.block ≠ gb654 := Kd.foot_ne (Kd.C_foot_ownV HO_2.out (fun _ hk => hk.2)) (by omega) (by decide); have hn656_2 : ad656.block ≠ gb654 := Kd.foot_ne (Kd.C_foot_ownV HO_2.out (fun _ hk => hk.2)) (by omega) (by decide); replace hx656_0 := (cell_far (p := ⟨gb654, 0, none⟩) (by first | (rw [add_block]; exact hn656_0) | (show (Addr.add _ _).block ≠ _; rw [add_block]; exact hn656_0) | exact hn656_0) (.bool a0)).trans hx656_0; replace hx656_0 := (cell_far (p := ⟨gb654, 1, none⟩) (by first | (rw [add_block]; exact hn656_1) | (show (Addr.add _ _).block ≠ _; rw [add_block]; exact hn656_1) | exact hn656_1) (.string t653)).trans hx656_0; replace hx656_0 := (cell_far (p := ⟨gb654, 2, none⟩) (by first | (rw [add_block]; exact hn656_2) | (show (Addr.add _ _).block ≠ _; rw [add_block]; exact hn656_2) | exact hn656_2) (.string (⟨#[]⟩ : ByteArray))).trans hx656_0; clear hn656_0; clear hn656_1; clear hn656_2; replace p656 := eq_true p656; replace q656 := eq_true q656; have hcz52_0 := cB BK636 0 (.bool false); have hcz52_1 := cB BK636 1 (.string (⟨#[]⟩ : ByteArray)); have hcz52_2 := cB BK636 2 (.string (⟨#[]⟩ : ByteArray)); have hfz52_0 := fB BK636 0; have hfz52_1 := fB BK636 1; have hfz52_2 := fB BK636 2))
        refine bodyPost_ret (results_cell_row rfl _ _ gb636 29 #[.bool a0, .string t653, .string (⟨#[]⟩ : ByteArray)] (0, 0) _ rfl (bC BK636) Tryd.underlying29 rfl (by kernel_rfl)) rfl ?_
        exact ⟨zE, zH⟩
end Go.Proofs.YtggfilmdfpmbmaaDoor.QN
end
section
namespace Go.Proofs.YtggfilmdfpmbmaaDoor.QN
open Go.RowKit Go.Proofs.YtggfilmdfpmbmaaDoorW.PrintWords Go.Proofs.YtggfilmdfpmbmaaDoorW.PrintLast Go.Proofs.YtggfilmdfpmbmaaDoorW.PrintMore
attribute [local go_sem] max2_int min2_int max_two min_two max_three min_three max_four min_four   -- for this text's walks alone
set_option linter.unusedVariables false
set_option linter.unusedSimpArgs false
def R1Int.f (k : Nat) (a0 : Int) : Option (Bool × ByteArray × ByteArray) := (R1size.f a0).bind fun t757 => ((R1FromUint.f k t757).bind fun t758 => (some (decide (a0 < 0), t758, (⟨#[]⟩ : ByteArray))))
set_option maxHeartbeats 8000000 in
set_option maxRecDepth 100000 in
theorem R1Int.calls (k : Nat) (a0 : Int) (r1 : Bool) (r2 : ByteArray) (r3 : ByteArray) (w : World) (h : R1Int.f k a0 = some (r1, r2, r3)) :
 Calls Tryd.prog 40 #[.int .i64 a0] w fun e w' => e = .returned (.agg #[.bool r1, .string r2, .string r3]) ∧ Below w.heap.size w w' := by
 have hu29 := Tryd.underlying29
 have HB := Aside0.mk (Below.refl w.heap.size w)
 have H : ((R1size.f a0).bind fun t757 => ((R1FromUint.f k t757).bind fun t758 => (some (decide (a0 < 0), t758, (⟨#[]⟩ : ByteArray))))) = some (r1, r2, r3) := h
 clear h
 replace H := bS H
 obtain ⟨t757, A2, H⟩ := H
 replace H := bS H
 obtain ⟨t758, A3, H⟩ := H
 simp only [Option.some.injEq, Prod.mk.injEq] at H
 obtain ⟨rfl, rfl, rfl⟩ := H
 go_enter Tryd.func40, Tryd.ntmps40
 go_wp2_with (first | (refine box_evA 2 #[.bool false, .string (⟨#[]⟩ : ByteArray), .string (⟨#[]⟩ : ByteArray)] 29 ?_; intro gb756 hg w4 hbox hb; obtain ⟨n0_, n1_, n2_, n3_⟩ := bx4 w hbox hb hg; revert n0_ n1_ n2_ n3_; clear HB; intro HB BK756 GW756 GE756; clear hb hbox hg) | (refine goesLA 6 Tryd.func61 #[.int .i64 a0] ?_; (with_reducible refine (R1size.calls a0 t757 _ A2.out).mono ?_); rintro e w' ⟨rfl, ⟨nd, rfl⟩⟩; refine ⟨_, rfl, ?_⟩; (try (rw [drewN_self w4]; generalize hq_ : World.drewN w4 _ = w4; have n0_ : Aside0 (w4.heap[gb756]? = some (.cells #[.bool false, .string (⟨#[]⟩ : ByteArray), .string (⟨#[]⟩ : ByteArray)] 29 (0, 0))) := ⟨by rw [← hq_]; exact (by (with_reducible repeat (first | refine blk_drewN ?_ _ | refine blk_drew ?_ | refine blk_alloc ?_ _)); exact BK756.out)⟩; have n1_ : Aside0 (Below w.heap.size w w4) := ⟨by rw [← hq_]; exact zH⟩; clear BK756 HB hq_; have BK756 := n0_; have HB := n1_; clear n0_ n1_))) | (refine goesLA 7 Tryd.func60 #[.int .u64 t757] ?_; (with_reducible refine (R1FromUint.calls k t757 t758 _ A3.out).mono ?_); rintro e w5 ⟨rfl, hb⟩; refine ⟨_, rfl, ?_⟩; have n0_ := bB BK756 hb; have n1_ := sB hb; revert n0_ n1_; clear BK756 HB; intro BK756 HB; (try clear hb); (try clear hb2); (try clear hk); (try clear hi); have hcz6_0 := cB BK756 0 (.bool false); have hcz6_1 := cB BK756 1 (.string (⟨#[]⟩ : ByteArray)); have hcz6_2 := cB BK756 2 (.string (⟨#[]⟩ : ByteArray)); have hfz6_0 := fB BK756 0; have hfz6_1 := fB BK756 1; have hfz6_2 := fB BK756 2))
 refine bodyPost_ret (results_cell_row rfl _ _ gb756 29 #[.bool (decide (a0 < 0)), .string t758, .string (⟨#[]⟩ : ByteArray)] (0, 0) _ rfl (bC BK756) Tryd.underlying29 rfl (by kernel_rfl)) rfl ?_
 exact ⟨zE, zH⟩
def R1Make.f (k : Nat) (a0 : Bool) (a1 : ByteArray) (a2 : ByteArray) : Option (Bool × ByteArray × ByteArray × Bool) := (R1limbs.f k a2).bind fun t760 => (if (t760.length : Int) = 0 then (some (false, (⟨#[]⟩ : ByteArray), (⟨#[]⟩ : ByteArray), false)) else ((R1limbs.f k a1).bind fun t763 => ((R1reduced.f k a0 t763 t760).bind fun bt766 => (some (bt766.1, bt766.2.1, bt766.2.2, true)))))
set_option maxHeartbeats 8000000 in
set_option maxRecDepth 100000 in
theorem R1Make.calls (k : Nat) (a0 : Bool) (a1 : ByteArray) (a2 : ByteArray) (r1 : Bool) (r2 : ByteArray) (r3 : ByteArray) (r4 : Bool) (w : World) (h : R1Make.f k a0 a1 a2 = some (r1, r2, r3, r4)) :
 Calls Tryd.prog 74 #[.bool a0, .string a1, .string a2] w fun e w' => e = .returned (.tuple #[.agg #[.bool r1, .string r2, .string r3], .bool r4]) ∧ Below w.heap.size w w' := by
 have hu29 := Tryd.underlying29
 have HB := Aside0.mk (Below.refl w.heap.size w)
 have H : ((R1limbs.f k a2).bind fun t760 => (if (t760.length : Int) = 0 then (some (false, (⟨#[]⟩ : ByteArray), (⟨#[]⟩ : ByteArray), false)) else ((R1limbs.f k a1).bind fun t763 => ((R1reduced.f k a0 t763 t760).bind fun bt766 => (some (bt766.1, bt766.2.1, bt766.2.2, true)))))) = some (r1, r2, r3, r4) := h
 clear h
 replace H := bS H
 obtain ⟨t760, A4, H⟩ := H
 by_cases c5 : (t760.length : Int) = 0
 ·rw [if_pos c5] at H
  have c5b0 := beq_iff_eq.mpr c5
  have c5b1 : ((t760.length : Int) != 0) = false := bne_eq_false_iff_eq.mpr c5
  clear c5
  simp only [Option.some.injEq, Prod.mk.injEq] at H
  obtain ⟨rfl, rfl, rfl, rfl⟩ := H
  go_enter Tryd.func74, Tryd.ntmps74
  go_wp2_with (first | (refine box_evA 6 #[.bool false, .string (⟨#[]⟩ : ByteArray), .string (⟨#[]⟩ : ByteArray)] 29 ?_; intro gb759 hg w6 hbox hb; obtain ⟨n0_, n1_, n2_, n3_⟩ := bx4 w hbox hb hg; revert n0_ n1_ n2_ n3_; clear HB; intro HB BK759 GW759 GE759; clear hb hbox hg) | (refine goesLA 10 Tryd.func56 #[.string a2] ?_; (with_reducible refine (R1limbs.calls k a2 t760 _ A4.out).mono ?_); rintro e w7 ⟨v761, rfl, ho0, hb⟩; refine ⟨_, rfl, ?_⟩; have n0_ := Aside0.mk (Kd.R_lower ho0 (below_size zH)); have n1_ := bB BK759 hb; have n2_ := sB hb; revert n0_ n1_ n2_; clear BK759 HB; intro HO762 BK759 HB; (try clear hb); (try clear hb2); (try clear hk); (try clear hi); (try clear ho0); obtain ⟨Ao8, co8, eo8⟩ := Kd.R_slice HO762.out; subst eo8; have hcz9_0 := cB BK759 0 (.bool false); have hcz9_1 := cB BK759 1 (.string (⟨#[]⟩ : ByteArray)); have hcz9_2 := cB BK759 2 (.string (⟨#[]⟩ : ByteArray)); have hfz9_0 := fB BK759 0; have hfz9_1 := fB BK759 1; have hfz9_2 := fB BK759 2))
  refine bodyPost_ret (results_ct rfl _ _ gb759 29 #[.bool false, .string (⟨#[]⟩ : ByteArray), .string (⟨#[]⟩ : ByteArray)] (0, 0) _ rfl (bC BK759) Tryd.underlying29 rfl (by kernel_rfl)) rfl ?_
  exact ⟨zE, zH⟩
 ·rw [if_neg c5] at H
  have c5b0 := beq_eq_false_iff_ne.mpr c5
  have c5b1 := bne_iff_ne.mpr c5
  have c5b2 : ¬ (t760 = []) := fun h_ => c5 (by rw [h_]; rfl)
  replace H := bS H
  obtain ⟨t763, A10, H⟩ := H
  replace H := bS H
  obtain ⟨⟨t766, t767, t768⟩, A11, H⟩ := H
  (try dsimp only at H)
  simp only [Option.some.injEq, Prod.mk.injEq] at H
  obtain ⟨rfl, rfl, rfl, rfl⟩ := H
  go_enter Tryd.func74, Tryd.ntmps74
  go_wp2_with (first | (refine box_evA 6 #[.bool false, .string (⟨#[]⟩ : ByteArray), .string (⟨#[]⟩ : ByteArray)] 29 ?_; intro gb759 hg w12 hbox hb; obtain ⟨n0_, n1_, n2_, n3_⟩ := bx4 w hbox hb hg; revert n0_ n1_ n2_ n3_; clear HB; intro HB BK759 GW759 GE759; clear hb hbox hg) | (refine goesLA 10 Tryd.func56 #[.string a2] ?_; (with_reducible refine (R1limbs.calls k a2 t760 _ A4.out).mono ?_); rintro e w13 ⟨v761, rfl, ho0, hb⟩; refine ⟨_, rfl, ?_⟩; have n0_ := Aside0.mk (Kd.R_lower ho0 (below_size zH)); have n1_ := bB BK759 hb; have n2_ := sB hb; revert n0_ n1_ n2_; clear BK759 HB; intro HO762 BK759 HB; (try clear hb); (try clear hb2); (try clear hk); (try clear hi); (try clear ho0); obtain ⟨Ao14, co14, eo14⟩ := Kd.R_slice HO762.out; subst eo14) | (refine goesLA 17 Tryd.func56 #[.string a1] ?_; (with_reducible refine (R1limbs.calls k a1 t763 _ A10.out).mono ?_); rintro e w15 ⟨v764, rfl, ho0, hb⟩; refine ⟨_, rfl, ?_⟩; have n0_ := Aside0.mk (Kd.R_elder' zq46 (Kd.R_base ho0) hb); have n1_ := Aside0.mk (Kd.R_lower (Kd.R_new' ho0 (Kd.R_lt zq46)) (below_size zH)); have n2_ := bB BK759 hb; have n3_ := sB hb; revert n0_ n1_ n2_ n3_; clear HO762 BK759 HB; intro HO762 HO765 BK759 HB; (try clear hb); (try clear hb2); (try clear hk); (try clear hi); (try clear ho0); obtain ⟨Ao16, co16, eo16⟩ := Kd.R_slice HO765.out; subst eo16) | (refine goesLA 19 Tryd.func54 #[.bool a0, .slice Ao16 t763.length co16, .slice Ao14 t760.length co14] ?_; (with_reducible refine (R1reduced.calls k a0 (fun k_ => some k_ = (.slice Ao16 t763.length co16 : Value).ownBlock) _ _ t763 (fun k_ => some k_ = (.slice Ao14 t760.length co14 : Value).ownBlock) _ _ t760 t766 t767 t768 _ ?side1 ?side2 A11.out).mono ?_); (case side1 => exact Kd.R_V (Kd.R_tight rfl (Kd.R_types (HO765.out) BK759.out (by decide)))); (case side2 => exact Kd.R_V (Kd.R_tight rfl (Kd.R_types (HO762.out) BK759.out (by decide)))); rintro e w17 ⟨rfl, hb⟩; refine ⟨_, rfl, ?_⟩; have n0_ := Aside0.mk (Kd.R_below zq46 hb); have n1_ := Aside0.mk (Kd.R_below (by (with_reducible repeat (first | apply Kd.R_alloc | apply Kd.R_drewN | apply Kd.R_drew)); exact HO765.out) hb); have n2_ := bB BK759 hb; have n3_ := sB hb; revert n0_ n1_ n2_ n3_; clear HO762 HO765 BK759 HB; intro HO762 HO765 BK759 HB; (try clear hb); (try clear hb2); (try clear hk); (try clear hi); have hcz18_0 := cB BK759 0 (.bool false); have hcz18_1 := cB BK759 1 (.string (⟨#[]⟩ : ByteArray)); have hcz18_2 := cB BK759 2 (.string (⟨#[]⟩ : ByteArray)); have hfz18_0 := fB BK759 0; have hfz18_1 := fB BK759 1; have hfz18_2 := fB BK759 2))
  refine bodyPost_ret (results_ct rfl _ _ gb759 29 #[.bool t766, .string t767, .string t768] (0, 0) _ rfl (bC BK759) Tryd.underlying29 rfl (by kernel_rfl)) rfl ?_
  exact ⟨zE, zH⟩
def R1Fraction.f (k : Nat) (a0 : Int) (a1 : Int) : Option (Bool × ByteArray × ByteArray × Bool) := (R1size.f a0).bind fun t770 => ((R1FromUint.f k t770).bind fun t771 => ((R1size.f a1).bind fun t772 => ((R1FromUint.f k t772).bind fun t773 => ((R1Make.f k ((decide (a0 < 0)) != (decide (a1 < 0))) t771 t773).bind fun bt774 => (some (bt774.1, bt774.2.1, bt774.2.2.1, bt774.2.2.2))))))
set_option maxHeartbeats 8000000 in
set_option maxRecDepth 100000 in
theorem R1Fraction.calls (k : Nat) (a0 : Int) (a1 : Int) (r1 : Bool) (r2 : ByteArray) (r3 : ByteArray) (r4 : Bool) (w : World) (h : R1Fraction.f k a0 a1 = some (r1, r2, r3, r4)) :
 Calls Tryd.prog 52 #[.int .i64 a0, .int .i64 a1] w fun e w' => e = .returned (.tuple #[.agg #[.bool r1, .string r2, .string r3], .bool r4]) ∧ Below w.heap.size w w' := by
 have hu29 := Tryd.underlying29
 have HB := Aside0.mk (Below.refl w.heap.size w)
 have H : ((R1size.f a0).bind fun t770 => ((R1FromUint.f k t770).bind fun t771 => ((R1size.f a1).bind fun t772 => ((R1FromUint.f k t772).bind fun t773 => ((R1Make.f k ((decide (a0 < 0)) != (decide (a1 < 0))) t771 t773).bind fun bt774 => (some (bt774.1, bt774.2.1, bt774.2.2.1, bt774.2.2.2))))))) = some (r1, r2, r3, r4) := h
 clear h
 replace H := bS H
 obtain ⟨t770, A3, H⟩ := H
 replace H := bS H
 obtain ⟨t771, A4, H⟩ := H
 replace H := bS H
 obtain ⟨t772, A5, H⟩ := H
 replace H := bS H
 obtain ⟨t773, A6, H⟩ := H
 replace H := bS H
 obtain ⟨⟨t774, t775, t776, t777⟩, A7, H⟩ := H
 (try dsimp only at H)
 simp only [Option.some.injEq, Prod.mk.injEq] at H
 obtain ⟨rfl, rfl, rfl, rfl⟩ := H
 go_enter Tryd.func52, Tryd.ntmps52
 go_wp2_with (first | (refine box_evA 4 #[.bool false, .string (⟨#[]⟩ : ByteArray), .string (⟨#[]⟩ : ByteArray)] 29 ?_; intro gb769 hg w8 hbox hb; obtain ⟨n0_, n1_, n2_, n3_⟩ := bx4 w hbox hb hg; revert n0_ n1_ n2_ n3_; clear HB; intro HB BK769 GW769 GE769; clear hb hbox hg) | (refine goesLA 12 Tryd.func61 #[.int .i64 a0] ?_; (with_reducible refine (R1size.calls a0 t770 _ A3.out).mono ?_); rintro e w' ⟨rfl, ⟨nd, rfl⟩⟩; refine ⟨_, rfl, ?_⟩; (try (rw [drewN_self w8]; generalize hq_ : World.drewN w8 _ = w8; have n0_ : Aside0 (w8.heap[gb769]? = some (.cells #[.bool false, .string (⟨#[]⟩ : ByteArray), .string (⟨#[]⟩ : ByteArray)] 29 (0, 0))) := ⟨by rw [← hq_]; exact (by (with_reducible repeat (first | refine blk_drewN ?_ _ | refine blk_drew ?_ | refine blk_alloc ?_ _)); exact BK769.out)⟩; have n1_ : Aside0 (Below w.heap.size w w8) := ⟨by rw [← hq_]; exact zH⟩; clear BK769 HB hq_; have BK769 := n0_; have HB := n1_; clear n0_ n1_))) | (refine goesLA 13 Tryd.func60 #[.int .u64 t770] ?_; (with_reducible refine (R1FromUint.calls k t770 t771 _ A4.out).mono ?_); rintro e w9 ⟨rfl, hb⟩; refine ⟨_, rfl, ?_⟩; have n0_ := bB BK769 hb; have n1_ := sB hb; revert n0_ n1_; clear BK769 HB; intro BK769 HB; (try clear hb); (try clear hb2); (try clear hk); (try clear hi)) | (refine goesLA 15 Tryd.func61 #[.int .i64 a1] ?_; (with_reducible refine (R1size.calls a1 t772 _ A5.out).mono ?_); rintro e w' ⟨rfl, ⟨nd, rfl⟩⟩; refine ⟨_, rfl, ?_⟩; (try (rw [drewN_self w9]; generalize hq_ : World.drewN w9 _ = w9; have n0_ : Aside0 (w9.heap[gb769]? = some (.cells #[.bool false, .string (⟨#[]⟩ : ByteArray), .string (⟨#[]⟩ : ByteArray)] 29 (0, 0))) := ⟨by rw [← hq_]; exact (by (with_reducible repeat (first | refine blk_drewN ?_ _ | refine blk_drew ?_ | refine blk_alloc ?_ _)); exact BK769.out)⟩; have n1_ : Aside0 (Below w.heap.size w w9) := ⟨by rw [← hq_]; exact zH⟩; clear BK769 HB hq_; have BK769 := n0_; have HB := n1_; clear n0_ n1_))) | (refine goesLA 16 Tryd.func60 #[.int .u64 t772] ?_; (with_reducible refine (R1FromUint.calls k t772 t773 _ A6.out).mono ?_); rintro e w10 ⟨rfl, hb⟩; refine ⟨_, rfl, ?_⟩; have n0_ := bB BK769 hb; have n1_ := sB hb; revert n0_ n1_; clear BK769 HB; intro BK769 HB; (try clear hb); (try clear hb2); (try clear hk); (try clear hi)) | (refine goesLA 17 Tryd.func74 #[.bool ((decide (a0 < 0)) != (decide (a1 < 0))), .string t771, .string t773] ?_; (with_reducible refine (R1Make.calls k ((decide (a0 < 0)) != (decide (a1 < 0))) t771 t773 t774 t775 t776 t777 _ A7.out).mono ?_); rintro e w11 ⟨rfl, hb⟩; refine ⟨_, rfl, ?_⟩; have n0_ := bB BK769 hb; have n1_ := sB hb; revert n0_ n1_; clear BK769 HB; intro BK769 HB; (try clear hb); (try clear hb2); (try clear hk); (try clear hi); have hcz12_0 := cB BK769 0 (.bool false); have hcz12_1 := cB BK769 1 (.string (⟨#[]⟩ : ByteArray)); have hcz12_2 := cB BK769 2 (.string (⟨#[]⟩ : ByteArray)); have hfz12_0 := fB BK769 0; have hfz12_1 := fB BK769 1; have hfz12_2 := fB BK769 2))
 refine bodyPost_ret (results_ct rfl _ _ gb769 29 #[.bool t774, .string t775, .string t776] (0, 0) _ rfl (bC BK769) Tryd.underlying29 rfl (by kernel_rfl)) rfl ?_
 exact ⟨zE, zH⟩
end Go.Proofs.YtggfilmdfpmbmaaDoor.QN
end
