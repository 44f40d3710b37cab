/-
  Steps and laws behind the statement that the claim's last text proves: the words of the walks, the walks of the Go functions (printed by a program of this session's own, then shortened by one), and what they compute. Conditions: stated at each theorem.
-/
import Derived.Test.YtggfilmdfpmbmaaGreatDoorP1
import Derived.Test.YtggfilmdfpmbmaaGreatDoorP9
import Derived.Test.YtggfilmdfpmbmaaGreatDoorP0
section
namespace Go.Proofs.YtggfilmdfpmbmaaGreatDoor.QN
open Go.RowKit Go.Proofs.YtggfilmdfpmbmaaGreatDoorW.PrintWords Go.Proofs.YtggfilmdfpmbmaaGreatDoorW.PrintLast Go.Proofs.YtggfilmdfpmbmaaGreatDoorW.PrintMore
attribute [local go_sem] max2_int min2_int max_two min_two max_three min_three max_four min_four
set_option linter.unusedVariables false
set_option linter.unusedSimpArgs false
def R1Plus.f (k : Nat) (a0_0 : Bool) (a0_1 a0_2 : ByteArray) (a1_0 : Bool) (a1_1 a1_2 : ByteArray) : Option (Bool × ByteArray × ByteArray) := if a0_1.toList = ([] : List UInt8) then (some (a1_0, a1_1, a1_2)) else (if a1_1.toList = ([] : List UInt8) then (some (a0_0, a0_1, a0_2)) else ((R1den.f k a0_0 a0_1 a0_2).bind fun t649 => ((R1den.f k a1_0 a1_1 a1_2).bind fun t652 => ((R1limbs.f k a0_1).bind fun t655 => ((R1times.f k t655 t652).bind fun t658 => ((R1limbs.f k a1_1).bind fun t661 => ((R1times.f k t661 t649).bind fun t664 => ((R1times.f k t649 t652).bind fun t667 => (if (a0_0 == a1_0) = true then ((R1plus.f k t658 t664).bind fun t670 => ((R1reduced.f k a0_0 t670 t667).bind fun bt673 => (some (bt673.1, bt673.2.1, bt673.2.2)))) else ((R1order.f k t658 t664).bind fun t676 => (if t676 < 0 then ((R1minus.f k t664 t658).bind fun t677 => ((R1reduced.f k a1_0 t677 t667).bind fun bt680 => (some (bt680.1, bt680.2.1, bt680.2.2)))) else ((R1minus.f k t658 t664).bind fun t683 => ((R1reduced.f k a0_0 t683 t667).bind fun bt686 => (some (bt686.1, bt686.2.1, bt686.2.2)))))))))))))))
def R1Plus.T11 : Bool × List (List Nat × List Nat) := (true, [([], []), ([0], [0]), ([], []), ([], []), ([2, 3], [2, 3]), ([], []), ([1, 4, 5, 4], [1, 4, 5]), ([6, 6, 0, 1, 2, 3, 4, 5, 6], [6])])
def R1Plus.B11 : List Nat := [0, 1, 0, 0, 12, 0, 63, 127]
theorem R1Plus.tab11 : rtab .any (opsOf Tryz.f23 11) = R1Plus.T11 := by kernel_rfl
theorem R1Plus.bits11 : waitsOk R1Plus.T11.2 R1Plus.B11 = true := by kernel_rfl
def R1Plus.T13 : Bool × List (List Nat × List Nat) := (true, [([], []), ([0], [0]), ([], []), ([], []), ([2, 3], [2, 3]), ([], []), ([1, 4, 5, 4], [1, 4, 5]), ([6, 6, 0, 1, 2, 3, 4, 5, 6], [6])])
def R1Plus.B13 : List Nat := [0, 1, 0, 0, 12, 0, 63, 127]
theorem R1Plus.tab13 : rtab .any (opsOf Tryz.f23 13) = R1Plus.T13 := by kernel_rfl
theorem R1Plus.bits13 : waitsOk R1Plus.T13.2 R1Plus.B13 = true := by kernel_rfl
def R1Plus.T14 : Bool × List (List Nat × List Nat) := (true, [([], []), ([0], [0]), ([], []), ([], []), ([2, 3], [2, 3]), ([], []), ([1, 4, 5, 4], [1, 4, 5]), ([6, 6, 0, 1, 2, 3, 4, 5, 6], [6])])
def R1Plus.B14 : List Nat := [0, 1, 0, 0, 12, 0, 63, 127]
theorem R1Plus.tab14 : rtab .any (opsOf Tryz.f23 14) = R1Plus.T14 := by kernel_rfl
theorem R1Plus.bits14 : waitsOk R1Plus.T14.2 R1Plus.B14 = true := by kernel_rfl
set_option maxHeartbeats 8000000 in
set_option maxRecDepth 100000 in
theorem R1Plus.calls (k : Nat) (a0_0 : Bool) (a0_1 a0_2 : ByteArray) (a1_0 : Bool) (a1_1 a1_2 : ByteArray) (r1 : Bool) (r2 r3 : ByteArray) (w : World) (H : R1Plus.f k a0_0 a0_1 a0_2 a1_0 a1_1 a1_2 = some (r1, r2, r3)) :
 Calls Tryz.prog 23 #[.agg #[.bool a0_0, .string a0_1, .string a0_2], .agg #[.bool a1_0, .string a1_1, .string a1_2]] w fun e w' => e = .returned (.agg #[.bool r1, .string r2, .string r3]) ∧ Below w.heap.size w w' := by
 have hu1 := Tryz.underlying23
 have HB := Aside0.mk (Below.refl w.heap.size w)
 unfold R1Plus.f at H
 replace H := iQ H
 rcases H with ⟨c1b0, c1b1, H⟩ | ⟨c1b0, c1b1, H⟩
 ·simp only [Option.some.injEq, Prod.mk.injEq] at H
  obtain ⟨rfl, rfl, rfl⟩ := H
  go_enter Tryz.func23, Tryz.ntmps23
  go_wp2_with (first | (refine bxA w 2 #[.bool a0_0, .string a0_1, .string a0_2] 23 fun g1 w2 B1 G1 hg hb HB => ?_; clear hb hg) | (refine bxA w 3 #[.bool a1_0, .string a1_1, .string a1_2] 23 fun g2 w3 B2 G2 hg hb HB => ?_; obtain ⟨N1, N2⟩ := nP B1 hg; replace B1 := bB B1 hb; clear hb hg) | (refine bxZ w 4 23 fun g3 w4 B3 G3 hg hb HB => ?_; obtain ⟨N3, N4⟩ := nP B1 hg; obtain ⟨N5, N6⟩ := nP B2 hg; replace B1 := bB B1 hb; replace B2 := bB B2 hb; clear hb hg; have m1 := N1; have n1 := N2; have m2 := N3; have n2 := N4; obtain ⟨_, _, _, _, _, _⟩ := xB3 B1; have m3 := N5; have n3 := N6; obtain ⟨_, _, _, _, _, _⟩ := xB3 B2; obtain ⟨_, _, _, _, _, _⟩ := xB3 B3))
  refine pR 23 #[.bool a1_0, .string a1_1, .string a1_2] B3 Tryz.underlying23 ?_
  exact ⟨zE, zH⟩
 ·replace H := iQ H
  rcases H with ⟨c2b0, c2b1, H⟩ | ⟨c2b0, c2b1, H⟩
  ·simp only [Option.some.injEq, Prod.mk.injEq] at H
   obtain ⟨rfl, rfl, rfl⟩ := H
   go_enter Tryz.func23, Tryz.ntmps23
   go_wp2_with (first | (refine bxA w 2 #[.bool a0_0, .string a0_1, .string a0_2] 23 fun g1 w2 B1 G1 hg hb HB => ?_; clear hb hg) | (refine bxA w 3 #[.bool a1_0, .string a1_1, .string a1_2] 23 fun g2 w3 B2 G2 hg hb HB => ?_; obtain ⟨N1, N2⟩ := nP B1 hg; replace B1 := bB B1 hb; clear hb hg) | (refine bxZ w 4 23 fun g3 w4 B3 G3 hg hb HB => ?_; obtain ⟨N3, N4⟩ := nP B1 hg; obtain ⟨N5, N6⟩ := nP B2 hg; replace B1 := bB B1 hb; replace B2 := bB B2 hb; clear hb hg; have m1 := N1; have n1 := N2; have m2 := N3; have n2 := N4; obtain ⟨_, _, _, _, _, _⟩ := xB3 B1; have m3 := N5; have n3 := N6; obtain ⟨_, _, _, _, _, _⟩ := xB3 B2; obtain ⟨_, _, _, _, _, _⟩ := xB3 B3))
   refine pR 23 #[.bool a0_0, .string a0_1, .string a0_2] B3 Tryz.underlying23 ?_
   exact ⟨zE, zH⟩
  ·replace ⟨t1, A1, H⟩ := bS H
   replace ⟨t2, A2, H⟩ := bS H
   replace ⟨t3, A3, H⟩ := bS H
   replace ⟨t4, A4, H⟩ := bS H
   replace ⟨t5, A5, H⟩ := bS H
   replace ⟨t6, A6, H⟩ := bS H
   replace ⟨t7, A7, H⟩ := bS H
   by_cases c3 : (a0_0 == a1_0) = true
   ·rw [if_pos c3] at H
    have c3b0 : (a0_0 == a1_0) = true := c3
    (try (have c3b1 : decide (a0_0 = a1_0) = true := by simpa using c3))
    (try (have c3b2 : (a0_0 == a1_0) = true := by simpa using c3))
    clear c3
    replace ⟨t8, A8, H⟩ := bS H
    replace ⟨⟨t9, t10, t11⟩, A9, H⟩ := bS H
    (try dsimp only at H)
    simp only [Option.some.injEq, Prod.mk.injEq] at H
    obtain ⟨rfl, rfl, rfl⟩ := H
    go_enter Tryz.func23, Tryz.ntmps23
    try go_wp2_with (first | (refine bxA w 2 #[.bool a0_0, .string a0_1, .string a0_2] 23 fun g1 w2 B1 G1 hg hb HB => ?_; clear hb hg) | (refine bxA w 3 #[.bool a1_0, .string a1_1, .string a1_2] 23 fun g2 w3 B2 G2 hg hb HB => ?_; obtain ⟨N1, N2⟩ := nP B1 hg; replace B1 := bB B1 hb; clear hb hg) | (refine bxZ w 4 23 fun g3 w4 B3 G3 hg hb HB => ?_; obtain ⟨N3, N4⟩ := nP B1 hg; obtain ⟨N5, N6⟩ := nP B2 hg; replace B1 := bB B1 hb; replace B2 := bB B2 hb; clear hb hg; have m1 := N1; have n1 := N2; have m2 := N3; have n2 := N4; obtain ⟨_, _, _, _, _, _⟩ := xB3 B1; have m3 := N5; have n3 := N6; obtain ⟨_, _, _, _, _, _⟩ := xB3 B2) | (refine gR 19 Tryz.func44 (R1den.calls _ _ _ _ _ _ A1.out) fun v1 w5 ho0 hb => ?_; have O1 := Aside0.mk (Kd.R_lower ho0 (below_size zH)); replace B1 := bB B1 hb; replace B2 := bB B2 hb; replace B3 := bB B3 hb; replace HB := sB hb; (try clear hb); (try clear ho0); obtain ⟨_, _, _, _, _, _⟩ := xB3 B2) | (refine gR 21 Tryz.func44 (R1den.calls _ _ _ _ _ _ A2.out) fun v2 w6 ho0 hb => ?_; have O2 := Aside0.mk (Kd.R_lower (Kd.R_new' ho0 (Kd.R_lt zq2)) (below_size zH)); replace O1 := Aside0.mk (Kd.R_elder' zq2 (Kd.R_base ho0) hb); replace B1 := bB B1 hb; replace B2 := bB B2 hb; replace B3 := bB B3 hb; replace HB := sB hb; (try clear hb); (try clear ho0); obtain ⟨_, _, _, _, _, _⟩ := xB3 B1) | (refine gR 24 Tryz.func46 (R1limbs.calls _ _ _ _ A3.out) fun v3 w7 ho0 hb => ?_; have O3 := Aside0.mk (Kd.R_lower (Kd.R_new' (Kd.R_new' ho0 (Kd.R_lt zq2)) (Kd.R_lt zq3)) (below_size zH)); replace O1 := Aside0.mk (Kd.R_elder' zq2 (Kd.R_base ho0) hb); replace O2 := Aside0.mk (Kd.R_elder' zq3 (Kd.R_base ho0) hb); replace B1 := bB B1 hb; replace B2 := bB B2 hb; replace B3 := bB B3 hb; replace HB := sB hb; (try clear hb); (try clear ho0); obtain ⟨P1, d1, u1⟩ := Kd.R_slice O3.out; subst u1; obtain ⟨P2, d2, u2⟩ := Kd.R_slice O2.out; subst u2) | (refine gR 26 Tryz.func45 (R1times.calls k _ _ t3 _ _ t2 t4 _ ?side1 ?side2 ?side3 ?side4 A4.out) fun v4 w8 ho0 hb => ?_; (case side1 => exact sC (Kd.R_reads' O3.out).2.2); (case side2 => exact (Kd.R_reads' O3.out).2.1); (case side3 => exact sC (Kd.R_reads' O2.out).2.2); (case side4 => exact (Kd.R_reads' O2.out).2.1); have O4 := Aside0.mk (Kd.V_lower (Kd.V_mono (ok' := fun k_ => some k_ ≠ (v1 : Value).ownBlock ∧ some k_ ≠ (.slice P2 t2.length d2 : Value).ownBlock ∧ some k_ ≠ (.slice P1 t3.length d1 : Value).ownBlock ∧ k_ ≠ g1 ∧ k_ ≠ g2 ∧ k_ ≠ g3) ho0 (fun k_ hk_ => ⟨(Kd.fresh' (Kd.R_lt zq2) k_ hk_), (Kd.fresh' (Kd.R_lt zq3) k_ hk_), (Kd.fresh' (Kd.R_lt zq8) k_ hk_), (Kd.freshB (g := g1) (o := .cells #[.bool a0_0, .string a0_1, .string a0_2] 23 (0, 0)) (by (with_reducible repeat (first | refine blk_drewN ?_ _ | refine blk_drew ?_ | refine blk_alloc ?_ _)); exact B1.out) k_ hk_), (Kd.freshB (g := g2) (o := .cells #[.bool a1_0, .string a1_1, .string a1_2] 23 (0, 0)) (by (with_reducible repeat (first | refine blk_drewN ?_ _ | refine blk_drew ?_ | refine blk_alloc ?_ _)); exact B2.out) k_ hk_), (Kd.freshB (g := g3) (o := .cells #[.bool false, .string (⟨#[]⟩ : ByteArray), .string (⟨#[]⟩ : ByteArray)] 23 (0, 0)) (by (with_reducible repeat (first | refine blk_drewN ?_ _ | refine blk_drew ?_ | refine blk_alloc ?_ _)); exact B3.out) k_ hk_)⟩)) (below_size zH)); replace O1 := rB O1 hb; replace O2 := rB O2 hb; replace O3 := rB O3 hb; replace B1 := bB B1 hb; replace B2 := bB B2 hb; replace B3 := bB B3 hb; replace HB := sB hb; (try clear hb); (try clear ho0); obtain ⟨_, _, _, _, _, _⟩ := xB3 B2) | (refine gR 29 Tryz.func46 (R1limbs.calls _ _ _ _ A5.out) fun v5 w9 ho0 hb => ?_; have O5 := Aside0.mk (Kd.R_lower (Kd.R_new' (Kd.R_new' (Kd.R_new' ho0 (Kd.R_lt zq2)) (Kd.R_lt zq3)) (Kd.R_lt zq8)) (below_size zH)); replace O1 := Aside0.mk (Kd.R_elder' zq2 (Kd.R_base ho0) hb); replace O2 := Aside0.mk (Kd.R_elder' zq3 (Kd.R_base ho0) hb); replace O3 := Aside0.mk (Kd.R_elder' zq8 (Kd.R_base ho0) hb); replace O4 := Aside0.mk (Kd.V_elder' zq59 (Kd.R_base ho0) hb); replace B1 := bB B1 hb; replace B2 := bB B2 hb; replace B3 := bB B3 hb; replace HB := sB hb; (try clear hb); (try clear ho0); obtain ⟨P3, d3, u3⟩ := Kd.R_slice O5.out; subst u3; obtain ⟨P4, d4, u4⟩ := Kd.R_slice O1.out; subst u4) | (refine gR 31 Tryz.func45 (R1times.calls k _ _ t5 _ _ t1 t6 _ ?side1 ?side2 ?side3 ?side4 A6.out) fun v6 w10 ho0 hb => ?_; (case side1 => exact sC (Kd.R_reads' O5.out).2.2); (case side2 => exact (Kd.R_reads' O5.out).2.1); (case side3 => exact sC (Kd.R_reads' O1.out).2.2); (case side4 => exact (Kd.R_reads' O1.out).2.1); have O6 := Aside0.mk (Kd.V_lower (Kd.V_mono (ok' := fun k_ => some k_ ≠ (.slice P4 t1.length d4 : Value).ownBlock ∧ some k_ ≠ (.slice P2 t2.length d2 : Value).ownBlock ∧ some k_ ≠ (.slice P1 t3.length d1 : Value).ownBlock ∧ some k_ ≠ (.slice P3 t5.length d3 : Value).ownBlock ∧ k_ ≠ g1 ∧ k_ ≠ g2 ∧ k_ ≠ g3) ho0 (fun k_ hk_ => ⟨(Kd.fresh' (Kd.R_lt zq2) k_ hk_), (Kd.fresh' (Kd.R_lt zq3) k_ hk_), (Kd.fresh' (Kd.R_lt zq8) k_ hk_), (Kd.fresh' (Kd.R_lt zq14) k_ hk_), (Kd.freshB (g := g1) (o := .cells #[.bool a0_0, .string a0_1, .string a0_2] 23 (0, 0)) (by (with_reducible repeat (first | refine blk_drewN ?_ _ | refine blk_drew ?_ | refine blk_alloc ?_ _)); exact B1.out) k_ hk_), (Kd.freshB (g := g2) (o := .cells #[.bool a1_0, .string a1_1, .string a1_2] 23 (0, 0)) (by (with_reducible repeat (first | refine blk_drewN ?_ _ | refine blk_drew ?_ | refine blk_alloc ?_ _)); exact B2.out) k_ hk_), (Kd.freshB (g := g3) (o := .cells #[.bool false, .string (⟨#[]⟩ : ByteArray), .string (⟨#[]⟩ : ByteArray)] 23 (0, 0)) (by (with_reducible repeat (first | refine blk_drewN ?_ _ | refine blk_drew ?_ | refine blk_alloc ?_ _)); exact B3.out) k_ hk_)⟩)) (below_size zH)); replace O1 := rB O1 hb; replace O2 := rB O2 hb; replace O3 := rB O3 hb; replace O4 := vB O4 hb; replace O5 := rB O5 hb; replace B1 := bB B1 hb; replace B2 := bB B2 hb; replace B3 := bB B3 hb; replace HB := sB hb; (try clear hb); (try clear ho0)) | (refine gR 34 Tryz.func45 (R1times.calls k _ _ t1 _ _ t2 t7 _ ?side1 ?side2 ?side3 ?side4 A7.out) fun v7 w11 ho0 hb => ?_; (case side1 => exact sC (Kd.R_reads' O1.out).2.2); (case side2 => exact (Kd.R_reads' O1.out).2.1); (case side3 => exact sC (Kd.R_reads' O2.out).2.2); (case side4 => exact (Kd.R_reads' O2.out).2.1); have O7 := Aside0.mk (Kd.V_lower (Kd.V_mono (ok' := fun k_ => some k_ ≠ (.slice P4 t1.length d4 : Value).ownBlock ∧ some k_ ≠ (.slice P2 t2.length d2 : Value).ownBlock ∧ some k_ ≠ (.slice P1 t3.length d1 : Value).ownBlock ∧ some k_ ≠ (.slice P3 t5.length d3 : Value).ownBlock ∧ k_ ≠ g1 ∧ k_ ≠ g2 ∧ k_ ≠ g3) ho0 (fun k_ hk_ => ⟨(Kd.fresh' (Kd.R_lt zq2) k_ hk_), (Kd.fresh' (Kd.R_lt zq3) k_ hk_), (Kd.fresh' (Kd.R_lt zq8) k_ hk_), (Kd.fresh' (Kd.R_lt zq14) k_ hk_), (Kd.freshB (g := g1) (o := .cells #[.bool a0_0, .string a0_1, .string a0_2] 23 (0, 0)) (by (with_reducible repeat (first | refine blk_drewN ?_ _ | refine blk_drew ?_ | refine blk_alloc ?_ _)); exact B1.out) k_ hk_), (Kd.freshB (g := g2) (o := .cells #[.bool a1_0, .string a1_1, .string a1_2] 23 (0, 0)) (by (with_reducible repeat (first | refine blk_drewN ?_ _ | refine blk_drew ?_ | refine blk_alloc ?_ _)); exact B2.out) k_ hk_), (Kd.freshB (g := g3) (o := .cells #[.bool false, .string (⟨#[]⟩ : ByteArray), .string (⟨#[]⟩ : ByteArray)] 23 (0, 0)) (by (with_reducible repeat (first | refine blk_drewN ?_ _ | refine blk_drew ?_ | refine blk_alloc ?_ _)); exact B3.out) k_ hk_)⟩)) (below_size zH)); replace O1 := rB O1 hb; replace O2 := rB O2 hb; replace O3 := rB O3 hb; replace O4 := vB O4 hb; replace O5 := rB O5 hb; replace O6 := vB O6 hb; replace B1 := bB B1 hb; replace B2 := bB B2 hb; replace B3 := bB B3 hb; replace HB := sB hb; (try clear hb); (try clear ho0); obtain ⟨_, _, _, _, _, _⟩ := xB3 B1; obtain ⟨_, _, _, _, _, _⟩ := xB3 B2))
    replace O1 := rD O1
    replace O2 := rD O2
    replace O3 := rD O3
    replace O4 := vD O4
    replace O5 := rD O5
    replace O6 := vD O6
    replace O7 := vD O7
    replace B1 := bD B1
    replace B2 := bD B2
    replace B3 := bD B3
    replace HB := hD HB
    obtain ⟨P5, d5, u5⟩ := Kd.V_slice O4.out
    (first | subst u5 | (injection u5 with f1_ f2_ f3_; have f4_ := f1_.symm; have f5_ := f3_.symm; clear f1_ f2_ f3_; subst f4_; subst f5_))
    obtain ⟨P6, d6, u6⟩ := Kd.V_slice O6.out
    (first | subst u6 | (injection u6 with f1_ f2_ f3_; have f4_ := f1_.symm; have f5_ := f3_.symm; clear f1_ f2_ f3_; subst f4_; subst f5_))
    refine startC1 8 [] B1 (fun hHeld => ?_); refine with_tabW R1Plus.tab11 R1Plus.bits11 (fun HT_ HW_ => ?_)
    generalize w11.drew = w12 at O1 O2 O3 O4 O5 O6 O7 B1 B2 B3 HB hHeld ⊢
    refine pA 0 1 ?_
    refine pA 2 5 ?_
    refine pA 3 13 ?_
    refine pA 5 45 ?_
    refine tA 1 47 hHeld ?_
    refine oA 4 63 fun K hK => ?_
    refine goes_ Tryz.func48 (by kernel_rfl) rfl #[.slice P5 t4.length d5, .slice P6 t6.length d6] (by rfl) rfl rfl zq5 ?_
    with_reducible refine (R1plus.calls k _ _ t4 _ _ t6 t8 _ ?side1 ?side2 ?side3 ?side4 A8.out).mono ?_
    (case side1 => exact sC (Kd.V_reads' O4.out).2.2)
    (case side2 => exact (Kd.V_reads' O4.out).2.1)
    (case side3 => exact sC (Kd.V_reads' O6.out).2.2)
    (case side4 => exact (Kd.V_reads' O6.out).2.1)
    rintro e w13 ⟨v8, rfl, ho0, hb⟩
    refine ⟨_, rfl, ?_⟩
    have O8 := Aside0.mk (Kd.R_lower (Kd.R_new' (Kd.R_new' (Kd.R_new' (Kd.R_new' ho0 (Kd.R_lt zq2)) (Kd.R_lt zq3)) (Kd.R_lt zq8)) (Kd.R_lt zq14)) (below_size zH))
    replace O1 := Aside0.mk (Kd.R_elder' zq2 (Kd.R_base ho0) hb)
    replace O2 := Aside0.mk (Kd.R_elder' zq3 (Kd.R_base ho0) hb)
    replace O3 := Aside0.mk (Kd.R_elder' zq8 (Kd.R_base ho0) hb)
    replace O4 := Aside0.mk (Kd.V_elder' zq59 (Kd.R_base ho0) hb)
    replace O5 := Aside0.mk (Kd.R_elder' zq14 (Kd.R_base ho0) hb)
    replace O6 := Aside0.mk (Kd.V_elder' (by (with_reducible repeat (first | apply Kd.V_alloc | apply Kd.V_drewN | apply Kd.V_drew)); exact O6.out) (Kd.R_base ho0) hb)
    replace O7 := Aside0.mk (Kd.V_elder' (by (with_reducible repeat (first | apply Kd.V_alloc | apply Kd.V_drewN | apply Kd.V_drew)); exact O7.out) (Kd.R_base ho0) hb)
    replace B1 := bB B1 hb
    replace B2 := bB B2 hb
    replace B3 := bB B3 hb
    replace HB := sB hb
    (try clear hb); (try clear ho0)
    obtain ⟨P7, d7, u7⟩ := Kd.R_slice O8.out
    (first | subst u7 | (injection u7 with f1_ f2_ f3_; have f4_ := f1_.symm; have f5_ := f3_.symm; clear f1_ f2_ f3_; subst f4_; subst f5_))
    obtain ⟨P8, d8, u8⟩ := Kd.V_slice O7.out
    (first | subst u8 | (injection u8 with f1_ f2_ f3_; have f4_ := f1_.symm; have f5_ := f3_.symm; clear f1_ f2_ f3_; subst f4_; subst f5_))
    refine hK.out _ _ zK (fun hHeld => ?_)
    clear hK K
    refine normA (N := 44) ?_
    refine oA 6 127 fun K hK => ?_
    refine goes_ Tryz.func47 (by kernel_rfl) rfl #[.bool a0_0, .slice P7 t8.length d7, .slice P8 t7.length d8] (by rfl) rfl rfl zq5 ?_
    with_reducible refine (R1reduced.calls k a0_0 (fun k_ => some k_ = (.slice P7 t8.length d7 : Value).ownBlock) _ _ t8 (fun k_ => ((some k_ ≠ (.slice P4 t1.length d4 : Value).ownBlock ∧ (some k_ ≠ (.slice P2 t2.length d2 : Value).ownBlock ∧ (some k_ ≠ (.slice P1 t3.length d1 : Value).ownBlock ∧ (some k_ ≠ (.slice P3 t5.length d3 : Value).ownBlock ∧ (k_ ≠ g1 ∧ (k_ ≠ g2 ∧ k_ ≠ g3)))))) ∧ some k_ ≠ (.slice P7 t8.length d7 : Value).ownBlock)) _ _ t7 t9 t10 t11 _ ?side1 ?side2 A9.out).mono ?_
    (case side1 => exact Kd.R_V (Kd.R_tight rfl (Kd.R_types (Kd.R_types (Kd.R_types (O8.out) B1.out (by decide)) B2.out (by decide)) B3.out (by decide))))
    (case side2 => exact O7.out)
    rintro e w14 ⟨rfl, hb⟩
    refine ⟨_, rfl, ?_⟩
    replace O1 := rB O1 hb
    replace O2 := rB O2 hb
    replace O3 := rB O3 hb
    replace O4 := vB O4 hb
    replace O5 := rB O5 hb
    replace O6 := vB O6 hb
    replace O7 := vB O7 hb
    replace O8 := rB O8 hb
    replace B1 := bB B1 hb
    replace B2 := bB B2 hb
    replace B3 := bB B3 hb
    replace HB := sB hb
    (try clear hb)
    refine hK.out _ _ zK (fun hHeld => ?_)
    clear hK K
    refine normA (N := 46) ?_
    refine one_ (i := 7) (N := none) (lB 8 255) rfl rfl (one_of HT_.out (by kernel_rfl)) (by decide) (fun K hK => ?_)
    have hs64 := cB B3 0 (.bool false)
    have hfs64 := fB B3 0
    have hs65 := cB B3 1 (.string (⟨#[]⟩ : ByteArray))
    have hfs65 := fB B3 1
    have hs66 := cB B3 2 (.string (⟨#[]⟩ : ByteArray))
    have hfs66 := fB B3 2
    refine skip_ (w1 := ?_) (by rfl) rfl ?_ ?_
    rotate_left
    ·go_simp
     rfl
    refine hK.out _ _ zC (fun hHeld => ?_)
    clear hK K
    refine done_ (done_of HT_.out (by kernel_rfl)) ?_
    try go_wp2
    refine pR 23 #[.bool t9, .string t10, .string t11] B3 Tryz.underlying23 ?_
    exact ⟨zE, zH⟩
   ·rw [if_neg c3] at H
    have c3b0 : (a0_0 == a1_0) = false := by simpa using c3
    (try (have c3b1 : decide (a0_0 = a1_0) = false := by simpa using c3))
    (try (have c3b2 : (a0_0 == a1_0) = false := by simpa using c3))
    (try (have c3b3 : ¬ (a0_0 = a1_0) := by simpa using c3))
    clear c3
    replace ⟨t8, A8, H⟩ := bS H
    replace H := iL H
    rcases H with ⟨c4b0, H⟩ | ⟨c4b0, H⟩
    replace ⟨t9, A9, H⟩ := bS H
    replace ⟨⟨t10, t11, t12⟩, A10, H⟩ := bS H
    (try dsimp only at H)
    simp only [Option.some.injEq, Prod.mk.injEq] at H
    obtain ⟨rfl, rfl, rfl⟩ := H
    rotate_left
    replace ⟨t9, A9, H⟩ := bS H
    replace ⟨⟨t10, t11, t12⟩, A10, H⟩ := bS H
    (try dsimp only at H)
    simp only [Option.some.injEq, Prod.mk.injEq] at H
    obtain ⟨rfl, rfl, rfl⟩ := H
    rotate_left
    all_goals
     go_enter Tryz.func23, Tryz.ntmps23
     try go_wp2_with (first | (refine bxA w 2 #[.bool a0_0, .string a0_1, .string a0_2] 23 fun g1 w2 B1 G1 hg hb HB => ?_; clear hb hg) | (refine bxA w 3 #[.bool a1_0, .string a1_1, .string a1_2] 23 fun g2 w3 B2 G2 hg hb HB => ?_; obtain ⟨N1, N2⟩ := nP B1 hg; replace B1 := bB B1 hb; clear hb hg) | (refine bxZ w 4 23 fun g3 w4 B3 G3 hg hb HB => ?_; obtain ⟨N3, N4⟩ := nP B1 hg; obtain ⟨N5, N6⟩ := nP B2 hg; replace B1 := bB B1 hb; replace B2 := bB B2 hb; clear hb hg; have m1 := N1; have n1 := N2; have m2 := N3; have n2 := N4; obtain ⟨_, _, _, _, _, _⟩ := xB3 B1; have m3 := N5; have n3 := N6; obtain ⟨_, _, _, _, _, _⟩ := xB3 B2) | (refine gR 19 Tryz.func44 (R1den.calls _ _ _ _ _ _ A1.out) fun v1 w5 ho0 hb => ?_; have O1 := Aside0.mk (Kd.R_lower ho0 (below_size zH)); replace B1 := bB B1 hb; replace B2 := bB B2 hb; replace B3 := bB B3 hb; replace HB := sB hb; (try clear hb); (try clear ho0); obtain ⟨_, _, _, _, _, _⟩ := xB3 B2) | (refine gR 21 Tryz.func44 (R1den.calls _ _ _ _ _ _ A2.out) fun v2 w6 ho0 hb => ?_; have O2 := Aside0.mk (Kd.R_lower (Kd.R_new' ho0 (Kd.R_lt zq2)) (below_size zH)); replace O1 := Aside0.mk (Kd.R_elder' zq2 (Kd.R_base ho0) hb); replace B1 := bB B1 hb; replace B2 := bB B2 hb; replace B3 := bB B3 hb; replace HB := sB hb; (try clear hb); (try clear ho0); obtain ⟨_, _, _, _, _, _⟩ := xB3 B1) | (refine gR 24 Tryz.func46 (R1limbs.calls _ _ _ _ A3.out) fun v3 w7 ho0 hb => ?_; have O3 := Aside0.mk (Kd.R_lower (Kd.R_new' (Kd.R_new' ho0 (Kd.R_lt zq2)) (Kd.R_lt zq3)) (below_size zH)); replace O1 := Aside0.mk (Kd.R_elder' zq2 (Kd.R_base ho0) hb); replace O2 := Aside0.mk (Kd.R_elder' zq3 (Kd.R_base ho0) hb); replace B1 := bB B1 hb; replace B2 := bB B2 hb; replace B3 := bB B3 hb; replace HB := sB hb; (try clear hb); (try clear ho0); obtain ⟨P1, d1, u1⟩ := Kd.R_slice O3.out; subst u1; obtain ⟨P2, d2, u2⟩ := Kd.R_slice O2.out; subst u2) | (refine gR 26 Tryz.func45 (R1times.calls k _ _ t3 _ _ t2 t4 _ ?side1 ?side2 ?side3 ?side4 A4.out) fun v4 w8 ho0 hb => ?_; (case side1 => exact sC (Kd.R_reads' O3.out).2.2); (case side2 => exact (Kd.R_reads' O3.out).2.1); (case side3 => exact sC (Kd.R_reads' O2.out).2.2); (case side4 => exact (Kd.R_reads' O2.out).2.1); have O4 := Aside0.mk (Kd.V_lower (Kd.V_mono (ok' := fun k_ => some k_ ≠ (v1 : Value).ownBlock ∧ some k_ ≠ (.slice P2 t2.length d2 : Value).ownBlock ∧ some k_ ≠ (.slice P1 t3.length d1 : Value).ownBlock ∧ k_ ≠ g1 ∧ k_ ≠ g2 ∧ k_ ≠ g3) ho0 (fun k_ hk_ => ⟨(Kd.fresh' (Kd.R_lt zq2) k_ hk_), (Kd.fresh' (Kd.R_lt zq3) k_ hk_), (Kd.fresh' (Kd.R_lt zq8) k_ hk_), (Kd.freshB (g := g1) (o := .cells #[.bool a0_0, .string a0_1, .string a0_2] 23 (0, 0)) (by (with_reducible repeat (first | refine blk_drewN ?_ _ | refine blk_drew ?_ | refine blk_alloc ?_ _)); exact B1.out) k_ hk_), (Kd.freshB (g := g2) (o := .cells #[.bool a1_0, .string a1_1, .string a1_2] 23 (0, 0)) (by (with_reducible repeat (first | refine blk_drewN ?_ _ | refine blk_drew ?_ | refine blk_alloc ?_ _)); exact B2.out) k_ hk_), (Kd.freshB (g := g3) (o := .cells #[.bool false, .string (⟨#[]⟩ : ByteArray), .string (⟨#[]⟩ : ByteArray)] 23 (0, 0)) (by (with_reducible repeat (first | refine blk_drewN ?_ _ | refine blk_drew ?_ | refine blk_alloc ?_ _)); exact B3.out) k_ hk_)⟩)) (below_size zH)); replace O1 := rB O1 hb; replace O2 := rB O2 hb; replace O3 := rB O3 hb; replace B1 := bB B1 hb; replace B2 := bB B2 hb; replace B3 := bB B3 hb; replace HB := sB hb; (try clear hb); (try clear ho0); obtain ⟨_, _, _, _, _, _⟩ := xB3 B2) | (refine gR 29 Tryz.func46 (R1limbs.calls _ _ _ _ A5.out) fun v5 w9 ho0 hb => ?_; have O5 := Aside0.mk (Kd.R_lower (Kd.R_new' (Kd.R_new' (Kd.R_new' ho0 (Kd.R_lt zq2)) (Kd.R_lt zq3)) (Kd.R_lt zq8)) (below_size zH)); replace O1 := Aside0.mk (Kd.R_elder' zq2 (Kd.R_base ho0) hb); replace O2 := Aside0.mk (Kd.R_elder' zq3 (Kd.R_base ho0) hb); replace O3 := Aside0.mk (Kd.R_elder' zq8 (Kd.R_base ho0) hb); replace O4 := Aside0.mk (Kd.V_elder' zq59 (Kd.R_base ho0) hb); replace B1 := bB B1 hb; replace B2 := bB B2 hb; replace B3 := bB B3 hb; replace HB := sB hb; (try clear hb); (try clear ho0); obtain ⟨P3, d3, u3⟩ := Kd.R_slice O5.out; subst u3; obtain ⟨P4, d4, u4⟩ := Kd.R_slice O1.out; subst u4) | (refine gR 31 Tryz.func45 (R1times.calls k _ _ t5 _ _ t1 t6 _ ?side1 ?side2 ?side3 ?side4 A6.out) fun v6 w10 ho0 hb => ?_; (case side1 => exact sC (Kd.R_reads' O5.out).2.2); (case side2 => exact (Kd.R_reads' O5.out).2.1); (case side3 => exact sC (Kd.R_reads' O1.out).2.2); (case side4 => exact (Kd.R_reads' O1.out).2.1); have O6 := Aside0.mk (Kd.V_lower (Kd.V_mono (ok' := fun k_ => some k_ ≠ (.slice P4 t1.length d4 : Value).ownBlock ∧ some k_ ≠ (.slice P2 t2.length d2 : Value).ownBlock ∧ some k_ ≠ (.slice P1 t3.length d1 : Value).ownBlock ∧ some k_ ≠ (.slice P3 t5.length d3 : Value).ownBlock ∧ k_ ≠ g1 ∧ k_ ≠ g2 ∧ k_ ≠ g3) ho0 (fun k_ hk_ => ⟨(Kd.fresh' (Kd.R_lt zq2) k_ hk_), (Kd.fresh' (Kd.R_lt zq3) k_ hk_), (Kd.fresh' (Kd.R_lt zq8) k_ hk_), (Kd.fresh' (Kd.R_lt zq14) k_ hk_), (Kd.freshB (g := g1) (o := .cells #[.bool a0_0, .string a0_1, .string a0_2] 23 (0, 0)) (by (with_reducible repeat (first | refine blk_drewN ?_ _ | refine blk_drew ?_ | refine blk_alloc ?_ _)); exact B1.out) k_ hk_), (Kd.freshB (g := g2) (o := .cells #[.bool a1_0, .string a1_1, .string a1_2] 23 (0, 0)) (by (with_reducible repeat (first | refine blk_drewN ?_ _ | refine blk_drew ?_ | refine blk_alloc ?_ _)); exact B2.out) k_ hk_), (Kd.freshB (g := g3) (o := .cells #[.bool false, .string (⟨#[]⟩ : ByteArray), .string (⟨#[]⟩ : ByteArray)] 23 (0, 0)) (by (with_reducible repeat (first | refine blk_drewN ?_ _ | refine blk_drew ?_ | refine blk_alloc ?_ _)); exact B3.out) k_ hk_)⟩)) (below_size zH)); replace O1 := rB O1 hb; replace O2 := rB O2 hb; replace O3 := rB O3 hb; replace O4 := vB O4 hb; replace O5 := rB O5 hb; replace B1 := bB B1 hb; replace B2 := bB B2 hb; replace B3 := bB B3 hb; replace HB := sB hb; (try clear hb); (try clear ho0)) | (refine gR 34 Tryz.func45 (R1times.calls k _ _ t1 _ _ t2 t7 _ ?side1 ?side2 ?side3 ?side4 A7.out) fun v7 w11 ho0 hb => ?_; (case side1 => exact sC (Kd.R_reads' O1.out).2.2); (case side2 => exact (Kd.R_reads' O1.out).2.1); (case side3 => exact sC (Kd.R_reads' O2.out).2.2); (case side4 => exact (Kd.R_reads' O2.out).2.1); have O7 := Aside0.mk (Kd.V_lower (Kd.V_mono (ok' := fun k_ => some k_ ≠ (.slice P4 t1.length d4 : Value).ownBlock ∧ some k_ ≠ (.slice P2 t2.length d2 : Value).ownBlock ∧ some k_ ≠ (.slice P1 t3.length d1 : Value).ownBlock ∧ some k_ ≠ (.slice P3 t5.length d3 : Value).ownBlock ∧ k_ ≠ g1 ∧ k_ ≠ g2 ∧ k_ ≠ g3) ho0 (fun k_ hk_ => ⟨(Kd.fresh' (Kd.R_lt zq2) k_ hk_), (Kd.fresh' (Kd.R_lt zq3) k_ hk_), (Kd.fresh' (Kd.R_lt zq8) k_ hk_), (Kd.fresh' (Kd.R_lt zq14) k_ hk_), (Kd.freshB (g := g1) (o := .cells #[.bool a0_0, .string a0_1, .string a0_2] 23 (0, 0)) (by (with_reducible repeat (first | refine blk_drewN ?_ _ | refine blk_drew ?_ | refine blk_alloc ?_ _)); exact B1.out) k_ hk_), (Kd.freshB (g := g2) (o := .cells #[.bool a1_0, .string a1_1, .string a1_2] 23 (0, 0)) (by (with_reducible repeat (first | refine blk_drewN ?_ _ | refine blk_drew ?_ | refine blk_alloc ?_ _)); exact B2.out) k_ hk_), (Kd.freshB (g := g3) (o := .cells #[.bool false, .string (⟨#[]⟩ : ByteArray), .string (⟨#[]⟩ : ByteArray)] 23 (0, 0)) (by (with_reducible repeat (first | refine blk_drewN ?_ _ | refine blk_drew ?_ | refine blk_alloc ?_ _)); exact B3.out) k_ hk_)⟩)) (below_size zH)); replace O1 := rB O1 hb; replace O2 := rB O2 hb; replace O3 := rB O3 hb; replace O4 := vB O4 hb; replace O5 := rB O5 hb; replace O6 := vB O6 hb; replace B1 := bB B1 hb; replace B2 := bB B2 hb; replace B3 := bB B3 hb; replace HB := sB hb; (try clear hb); (try clear ho0); obtain ⟨_, _, _, _, _, _⟩ := xB3 B1; obtain ⟨_, _, _, _, _, _⟩ := xB3 B2; obtain ⟨P5, d5, u5⟩ := Kd.V_slice O4.out; subst u5; obtain ⟨P6, d6, u6⟩ := Kd.V_slice O6.out; subst u6) | (refine gD 49 Tryz.func49 (R1order.calls k _ _ t4 _ _ t6 t8 _ ?side1 ?side2 ?side3 ?side4 A8.out) fun nd => ?_; (case side1 => exact sC (Kd.V_reads' O4.out).2.2); (case side2 => exact (Kd.V_reads' O4.out).2.1); (case side3 => exact sC (Kd.V_reads' O6.out).2.2); (case side4 => exact (Kd.V_reads' O6.out).2.1); (try (rw [drewN_self w11]; generalize hq_ : World.drewN w11 _ = w11; have n0_ : Aside0 (Kd.R (Kd.int .u32) 80 w11 w.heap.size (fun k_ => some k_ ≠ (.slice P2 t2.length d2 : Value).ownBlock ∧ some k_ ≠ (.slice P1 t3.length d1 : Value).ownBlock ∧ some k_ ≠ (.slice P3 t5.length d3 : Value).ownBlock) (.slice P4 t1.length d4) t1) := ⟨by rw [← hq_]; exact (by (with_reducible repeat (first | apply Kd.R_alloc | apply Kd.R_drewN | apply Kd.R_drew)); exact Kd.R_mono O1.out (fun _ hk => ⟨hk.1.1.2, ⟨hk.1.2, hk.2⟩⟩))⟩; have n1_ : Aside0 (Kd.R (Kd.int .u32) 80 w11 w.heap.size (fun k_ => some k_ ≠ (.slice P4 t1.length d4 : Value).ownBlock ∧ some k_ ≠ (.slice P1 t3.length d1 : Value).ownBlock ∧ some k_ ≠ (.slice P3 t5.length d3 : Value).ownBlock) (.slice P2 t2.length d2) t2) := ⟨by rw [← hq_]; exact (by (with_reducible repeat (first | apply Kd.R_alloc | apply Kd.R_drewN | apply Kd.R_drew)); exact Kd.R_mono O2.out (fun _ hk => ⟨hk.1.1.2, ⟨hk.1.2, hk.2⟩⟩))⟩; have n2_ : Aside0 (Kd.R (Kd.int .u32) 80 w11 w.heap.size (fun k_ => some k_ ≠ (.slice P4 t1.length d4 : Value).ownBlock ∧ some k_ ≠ (.slice P2 t2.length d2 : Value).ownBlock ∧ some k_ ≠ (.slice P3 t5.length d3 : Value).ownBlock) (.slice P1 t3.length d1) t3) := ⟨by rw [← hq_]; exact (by (with_reducible repeat (first | apply Kd.R_alloc | apply Kd.R_drewN | apply Kd.R_drew)); exact Kd.R_mono O3.out (fun _ hk => ⟨hk.1.1.2, ⟨hk.1.2, hk.2⟩⟩))⟩; have n3_ : Aside0 (Kd.V (Kd.int .u32) 80 w11 w.heap.size (fun k_ => some k_ ≠ (.slice P4 t1.length d4 : Value).ownBlock ∧ some k_ ≠ (.slice P2 t2.length d2 : Value).ownBlock ∧ some k_ ≠ (.slice P1 t3.length d1 : Value).ownBlock ∧ some k_ ≠ (.slice P3 t5.length d3 : Value).ownBlock ∧ k_ ≠ g1 ∧ k_ ≠ g2 ∧ k_ ≠ g3) (.slice P5 t4.length d5) t4) := ⟨by rw [← hq_]; exact (by (with_reducible repeat (first | apply Kd.V_alloc | apply Kd.V_drewN | apply Kd.V_drew)); exact Kd.V_mono O4.out (fun _ hk => ⟨hk.1.1, ⟨hk.1.2.1, ⟨hk.1.2.2.1, ⟨hk.2, ⟨hk.1.2.2.2.1, ⟨hk.1.2.2.2.2.1, hk.1.2.2.2.2.2⟩⟩⟩⟩⟩⟩))⟩; have n4_ : Aside0 (Kd.R (Kd.int .u32) 80 w11 w.heap.size (fun k_ => some k_ ≠ (.slice P4 t1.length d4 : Value).ownBlock ∧ some k_ ≠ (.slice P2 t2.length d2 : Value).ownBlock ∧ some k_ ≠ (.slice P1 t3.length d1 : Value).ownBlock) (.slice P3 t5.length d3) t5) := ⟨by rw [← hq_]; exact (by (with_reducible repeat (first | apply Kd.R_alloc | apply Kd.R_drewN | apply Kd.R_drew)); exact Kd.R_mono O5.out (fun _ hk => ⟨hk.1.1.2, ⟨hk.1.2, hk.2⟩⟩))⟩; have n5_ : Aside0 (Kd.V (Kd.int .u32) 80 w11 w.heap.size (fun k_ => some k_ ≠ (.slice P4 t1.length d4 : Value).ownBlock ∧ some k_ ≠ (.slice P2 t2.length d2 : Value).ownBlock ∧ some k_ ≠ (.slice P1 t3.length d1 : Value).ownBlock ∧ some k_ ≠ (.slice P3 t5.length d3 : Value).ownBlock ∧ k_ ≠ g1 ∧ k_ ≠ g2 ∧ k_ ≠ g3) (.slice P6 t6.length d6) t6) := ⟨by rw [← hq_]; exact (by (with_reducible repeat (first | apply Kd.V_alloc | apply Kd.V_drewN | apply Kd.V_drew)); exact O6.out)⟩; have n6_ : Aside0 (Kd.V (Kd.int .u32) 80 w11 w.heap.size (fun k_ => some k_ ≠ (.slice P4 t1.length d4 : Value).ownBlock ∧ some k_ ≠ (.slice P2 t2.length d2 : Value).ownBlock ∧ some k_ ≠ (.slice P1 t3.length d1 : Value).ownBlock ∧ some k_ ≠ (.slice P3 t5.length d3 : Value).ownBlock ∧ k_ ≠ g1 ∧ k_ ≠ g2 ∧ k_ ≠ g3) v7 t7) := ⟨by rw [← hq_]; exact (by (with_reducible repeat (first | apply Kd.V_alloc | apply Kd.V_drewN | apply Kd.V_drew)); exact O7.out)⟩; have n7_ : Aside0 (w11.heap[g1]? = some (.cells #[.bool a0_0, .string a0_1, .string a0_2] 23 (0, 0))) := ⟨by rw [← hq_]; exact (by (with_reducible repeat (first | refine blk_drewN ?_ _ | refine blk_drew ?_ | refine blk_alloc ?_ _)); exact B1.out)⟩; have n8_ : Aside0 (w11.heap[g2]? = some (.cells #[.bool a1_0, .string a1_1, .string a1_2] 23 (0, 0))) := ⟨by rw [← hq_]; exact (by (with_reducible repeat (first | refine blk_drewN ?_ _ | refine blk_drew ?_ | refine blk_alloc ?_ _)); exact B2.out)⟩; have n9_ : Aside0 (w11.heap[g3]? = some (.cells #[.bool false, .string (⟨#[]⟩ : ByteArray), .string (⟨#[]⟩ : ByteArray)] 23 (0, 0))) := ⟨by rw [← hq_]; exact (by (with_reducible repeat (first | refine blk_drewN ?_ _ | refine blk_drew ?_ | refine blk_alloc ?_ _)); exact B3.out)⟩; have n10_ : Aside0 (Below w.heap.size w w11) := ⟨by rw [← hq_]; exact zH⟩; clear O1 O2 O3 O4 O5 O6 O7 B1 B2 B3 HB hq_; have O1 := n0_; have O2 := n1_; have O3 := n2_; have O4 := n3_; have O5 := n4_; have O6 := n5_; have O7 := n6_; have B1 := n7_; have B2 := n8_; have B3 := n9_; have HB := n10_; clear n0_ n1_ n2_ n3_ n4_ n5_ n6_ n7_ n8_ n9_ n10_))))
     replace O1 := rD O1
     replace O2 := rD O2
     replace O3 := rD O3
     replace O4 := vD O4
     replace O5 := rD O5
     replace O6 := vD O6
     replace O7 := vD O7
     replace B1 := bD B1
     replace B2 := bD B2
     replace B3 := bD B3
     replace HB := hD HB
    ·refine startC1 8 [] B2 (fun hHeld => ?_); refine with_tabW R1Plus.tab13 R1Plus.bits13 (fun HT_ HW_ => ?_)
     generalize w11.drew = w12 at O1 O2 O3 O4 O5 O6 O7 B1 B2 B3 HB hHeld ⊢
     refine pA 0 1 ?_
     refine pA 2 5 ?_
     refine pA 3 13 ?_
     refine pA 5 45 ?_
     refine tA 1 47 hHeld ?_
     refine oA 4 63 fun K hK => ?_
     refine goes_ Tryz.func50 (by kernel_rfl) rfl #[.slice P6 t6.length d6, .slice P5 t4.length d5] (by rfl) rfl rfl zq5 ?_
     with_reducible refine (R1minus.calls k _ _ t6 _ _ t4 t9 _ ?side1 ?side2 ?side3 ?side4 A9.out).mono ?_
     (case side1 => exact sC (Kd.V_reads' O6.out).2.2)
     (case side2 => exact (Kd.V_reads' O6.out).2.1)
     (case side3 => exact sC (Kd.V_reads' O4.out).2.2)
     (case side4 => exact (Kd.V_reads' O4.out).2.1)
     rintro e w13 ⟨v8, rfl, ho0, hb⟩
     refine ⟨_, rfl, ?_⟩
     have O8 := Aside0.mk (Kd.V_lower (Kd.V_mono (ok' := fun k_ => some k_ ≠ (.slice P4 t1.length d4 : Value).ownBlock ∧ some k_ ≠ (.slice P2 t2.length d2 : Value).ownBlock ∧ some k_ ≠ (.slice P1 t3.length d1 : Value).ownBlock ∧ some k_ ≠ (.slice P3 t5.length d3 : Value).ownBlock ∧ k_ ≠ g1 ∧ k_ ≠ g2 ∧ k_ ≠ g3) ho0 (fun k_ hk_ => ⟨(Kd.fresh' (Kd.R_lt zq2) k_ hk_), (Kd.fresh' (Kd.R_lt zq3) k_ hk_), (Kd.fresh' (Kd.R_lt zq8) k_ hk_), (Kd.fresh' (Kd.R_lt zq14) k_ hk_), (Kd.freshB (g := g1) (o := .cells #[.bool a0_0, .string a0_1, .string a0_2] 23 (0, 0)) (by (with_reducible repeat (first | refine blk_drewN ?_ _ | refine blk_drew ?_ | refine blk_alloc ?_ _)); exact B1.out) k_ hk_), (Kd.freshB (g := g2) (o := .cells #[.bool a1_0, .string a1_1, .string a1_2] 23 (0, 0)) (by (with_reducible repeat (first | refine blk_drewN ?_ _ | refine blk_drew ?_ | refine blk_alloc ?_ _)); exact B2.out) k_ hk_), (Kd.freshB (g := g3) (o := .cells #[.bool false, .string (⟨#[]⟩ : ByteArray), .string (⟨#[]⟩ : ByteArray)] 23 (0, 0)) (by (with_reducible repeat (first | refine blk_drewN ?_ _ | refine blk_drew ?_ | refine blk_alloc ?_ _)); exact B3.out) k_ hk_)⟩)) (below_size zH))
     replace O1 := rB O1 hb
     replace O2 := rB O2 hb
     replace O3 := rB O3 hb
     replace O4 := vB O4 hb
     replace O5 := rB O5 hb
     replace O6 := vB O6 hb
     replace O7 := vB O7 hb
     replace B1 := bB B1 hb
     replace B2 := bB B2 hb
     replace B3 := bB B3 hb
     replace HB := sB hb
     (try clear hb); (try clear ho0)
     obtain ⟨P7, d7, u7⟩ := Kd.V_slice O8.out
     (first | subst u7 | (injection u7 with f1_ f2_ f3_; have f4_ := f1_.symm; have f5_ := f3_.symm; clear f1_ f2_ f3_; subst f4_; subst f5_))
     obtain ⟨P8, d8, u8⟩ := Kd.V_slice O7.out
     (first | subst u8 | (injection u8 with f1_ f2_ f3_; have f4_ := f1_.symm; have f5_ := f3_.symm; clear f1_ f2_ f3_; subst f4_; subst f5_))
     refine hK.out _ _ zK (fun hHeld => ?_)
     clear hK K
     refine normA (N := 55) ?_
     refine oA 6 127 fun K hK => ?_
     refine goes_ Tryz.func47 (by kernel_rfl) rfl #[.bool a1_0, .slice P7 t9.length d7, .slice P8 t7.length d8] (by rfl) rfl rfl zq5 ?_
     with_reducible refine (R1reduced.calls k a1_0 (fun k_ => (some k_ ≠ (.slice P4 t1.length d4 : Value).ownBlock ∧ (some k_ ≠ (.slice P2 t2.length d2 : Value).ownBlock ∧ (some k_ ≠ (.slice P1 t3.length d1 : Value).ownBlock ∧ (some k_ ≠ (.slice P3 t5.length d3 : Value).ownBlock ∧ (k_ ≠ g1 ∧ (k_ ≠ g2 ∧ k_ ≠ g3))))))) _ _ t9 (fun k_ => (some k_ ≠ (.slice P4 t1.length d4 : Value).ownBlock ∧ (some k_ ≠ (.slice P2 t2.length d2 : Value).ownBlock ∧ (some k_ ≠ (.slice P1 t3.length d1 : Value).ownBlock ∧ (some k_ ≠ (.slice P3 t5.length d3 : Value).ownBlock ∧ (k_ ≠ g1 ∧ (k_ ≠ g2 ∧ k_ ≠ g3))))))) _ _ t7 t10 t11 t12 _ ?side1 ?side2 A10.out).mono ?_
     (case side1 => exact O8.out)
     (case side2 => exact O7.out)
     rintro e w14 ⟨rfl, hb⟩
     refine ⟨_, rfl, ?_⟩
     replace O1 := rB O1 hb
     replace O2 := rB O2 hb
     replace O3 := rB O3 hb
     replace O4 := vB O4 hb
     replace O5 := rB O5 hb
     replace O6 := vB O6 hb
     replace O7 := vB O7 hb
     replace O8 := vB O8 hb
     replace B1 := bB B1 hb
     replace B2 := bB B2 hb
     replace B3 := bB B3 hb
     replace HB := sB hb
     (try clear hb)
     refine hK.out _ _ zK (fun hHeld => ?_)
     clear hK K
     refine normA (N := 57) ?_
     refine one_ (i := 7) (N := none) (lB 8 255) rfl rfl (one_of HT_.out (by kernel_rfl)) (by decide) (fun K hK => ?_)
     have hs102 := cB B3 0 (.bool false)
     have hfs102 := fB B3 0
     have hs103 := cB B3 1 (.string (⟨#[]⟩ : ByteArray))
     have hfs103 := fB B3 1
     have hs104 := cB B3 2 (.string (⟨#[]⟩ : ByteArray))
     have hfs104 := fB B3 2
     refine skip_ (w1 := ?_) (by rfl) rfl ?_ ?_
     rotate_left
     ·go_simp
      rfl
     refine hK.out _ _ zC (fun hHeld => ?_)
     clear hK K
     refine done_ (done_of HT_.out (by kernel_rfl)) ?_
     try go_wp2
     refine pR 23 #[.bool t10, .string t11, .string t12] B3 Tryz.underlying23 ?_
     exact ⟨zE, zH⟩
    ·refine startC1 8 [] B1 (fun hHeld => ?_); refine with_tabW R1Plus.tab14 R1Plus.bits14 (fun HT_ HW_ => ?_)
     generalize w11.drew = w12 at O1 O2 O3 O4 O5 O6 O7 B1 B2 B3 HB hHeld ⊢
     refine pA 0 1 ?_
     refine pA 2 5 ?_
     refine pA 3 13 ?_
     refine pA 5 45 ?_
     refine tA 1 47 hHeld ?_
     refine oA 4 63 fun K hK => ?_
     refine goes_ Tryz.func50 (by kernel_rfl) rfl #[.slice P5 t4.length d5, .slice P6 t6.length d6] (by rfl) rfl rfl zq5 ?_
     with_reducible refine (R1minus.calls k _ _ t4 _ _ t6 t9 _ ?side1 ?side2 ?side3 ?side4 A9.out).mono ?_
     (case side1 => exact sC (Kd.V_reads' O4.out).2.2)
     (case side2 => exact (Kd.V_reads' O4.out).2.1)
     (case side3 => exact sC (Kd.V_reads' O6.out).2.2)
     (case side4 => exact (Kd.V_reads' O6.out).2.1)
     rintro e w13 ⟨v8, rfl, ho0, hb⟩
     refine ⟨_, rfl, ?_⟩
     have O8 := Aside0.mk (Kd.V_lower (Kd.V_mono (ok' := fun k_ => some k_ ≠ (.slice P4 t1.length d4 : Value).ownBlock ∧ some k_ ≠ (.slice P2 t2.length d2 : Value).ownBlock ∧ some k_ ≠ (.slice P1 t3.length d1 : Value).ownBlock ∧ some k_ ≠ (.slice P3 t5.length d3 : Value).ownBlock ∧ k_ ≠ g1 ∧ k_ ≠ g2 ∧ k_ ≠ g3) ho0 (fun k_ hk_ => ⟨(Kd.fresh' (Kd.R_lt zq2) k_ hk_), (Kd.fresh' (Kd.R_lt zq3) k_ hk_), (Kd.fresh' (Kd.R_lt zq8) k_ hk_), (Kd.fresh' (Kd.R_lt zq14) k_ hk_), (Kd.freshB (g := g1) (o := .cells #[.bool a0_0, .string a0_1, .string a0_2] 23 (0, 0)) (by (with_reducible repeat (first | refine blk_drewN ?_ _ | refine blk_drew ?_ | refine blk_alloc ?_ _)); exact B1.out) k_ hk_), (Kd.freshB (g := g2) (o := .cells #[.bool a1_0, .string a1_1, .string a1_2] 23 (0, 0)) (by (with_reducible repeat (first | refine blk_drewN ?_ _ | refine blk_drew ?_ | refine blk_alloc ?_ _)); exact B2.out) k_ hk_), (Kd.freshB (g := g3) (o := .cells #[.bool false, .string (⟨#[]⟩ : ByteArray), .string (⟨#[]⟩ : ByteArray)] 23 (0, 0)) (by (with_reducible repeat (first | refine blk_drewN ?_ _ | refine blk_drew ?_ | refine blk_alloc ?_ _)); exact B3.out) k_ hk_)⟩)) (below_size zH))
     replace O1 := rB O1 hb
     replace O2 := rB O2 hb
     replace O3 := rB O3 hb
     replace O4 := vB O4 hb
     replace O5 := rB O5 hb
     replace O6 := vB O6 hb
     replace O7 := vB O7 hb
     replace B1 := bB B1 hb
     replace B2 := bB B2 hb
     replace B3 := bB B3 hb
     replace HB := sB hb
     (try clear hb); (try clear ho0)
     obtain ⟨P7, d7, u7⟩ := Kd.V_slice O8.out
     (first | subst u7 | (injection u7 with f1_ f2_ f3_; have f4_ := f1_.symm; have f5_ := f3_.symm; clear f1_ f2_ f3_; subst f4_; subst f5_))
     obtain ⟨P8, d8, u8⟩ := Kd.V_slice O7.out
     (first | subst u8 | (injection u8 with f1_ f2_ f3_; have f4_ := f1_.symm; have f5_ := f3_.symm; clear f1_ f2_ f3_; subst f4_; subst f5_))
     refine hK.out _ _ zK (fun hHeld => ?_)
     clear hK K
     refine normA (N := 62) ?_
     refine oA 6 127 fun K hK => ?_
     refine goes_ Tryz.func47 (by kernel_rfl) rfl #[.bool a0_0, .slice P7 t9.length d7, .slice P8 t7.length d8] (by rfl) rfl rfl zq5 ?_
     with_reducible refine (R1reduced.calls k a0_0 (fun k_ => (some k_ ≠ (.slice P4 t1.length d4 : Value).ownBlock ∧ (some k_ ≠ (.slice P2 t2.length d2 : Value).ownBlock ∧ (some k_ ≠ (.slice P1 t3.length d1 : Value).ownBlock ∧ (some k_ ≠ (.slice P3 t5.length d3 : Value).ownBlock ∧ (k_ ≠ g1 ∧ (k_ ≠ g2 ∧ k_ ≠ g3))))))) _ _ t9 (fun k_ => (some k_ ≠ (.slice P4 t1.length d4 : Value).ownBlock ∧ (some k_ ≠ (.slice P2 t2.length d2 : Value).ownBlock ∧ (some k_ ≠ (.slice P1 t3.length d1 : Value).ownBlock ∧ (some k_ ≠ (.slice P3 t5.length d3 : Value).ownBlock ∧ (k_ ≠ g1 ∧ (k_ ≠ g2 ∧ k_ ≠ g3))))))) _ _ t7 t10 t11 t12 _ ?side1 ?side2 A10.out).mono ?_
     (case side1 => exact O8.out)
     (case side2 => exact O7.out)
     rintro e w14 ⟨rfl, hb⟩
     refine ⟨_, rfl, ?_⟩
     replace O1 := rB O1 hb
     replace O2 := rB O2 hb
     replace O3 := rB O3 hb
     replace O4 := vB O4 hb
     replace O5 := rB O5 hb
     replace O6 := vB O6 hb
     replace O7 := vB O7 hb
     replace O8 := vB O8 hb
     replace B1 := bB B1 hb
     replace B2 := bB B2 hb
     replace B3 := bB B3 hb
     replace HB := sB hb
     (try clear hb)
     refine hK.out _ _ zK (fun hHeld => ?_)
     clear hK K
     refine normA (N := 64) ?_
     refine one_ (i := 7) (N := none) (lB 8 255) rfl rfl (one_of HT_.out (by kernel_rfl)) (by decide) (fun K hK => ?_)
     have hs138 := cB B3 0 (.bool false)
     have hfs138 := fB B3 0
     have hs139 := cB B3 1 (.string (⟨#[]⟩ : ByteArray))
     have hfs139 := fB B3 1
     have hs140 := cB B3 2 (.string (⟨#[]⟩ : ByteArray))
     have hfs140 := fB B3 2
     refine skip_ (w1 := ?_) (by rfl) rfl ?_ ?_
     rotate_left
     ·go_simp
      rfl
     refine hK.out _ _ zC (fun hHeld => ?_)
     clear hK K
     refine done_ (done_of HT_.out (by kernel_rfl)) ?_
     try go_wp2
     refine pR 23 #[.bool t10, .string t11, .string t12] B3 Tryz.underlying23 ?_
     exact ⟨zE, zH⟩
def R1Times.j0 : Nat → Bool → Bool → ByteArray → ByteArray → Bool → ByteArray → ByteArray → Option (Bool × ByteArray × ByteArray)
 | 0, _, _, _, _, _, _, _ => none
 | k + 1, x12, x690000, x690001, x690002, x691000, x691001, x691002 => if x12 = true then (some (false, (⟨#[]⟩ : ByteArray), (⟨#[]⟩ : ByteArray))) else ((R1limbs.f k x690001).bind fun t692 => ((R1limbs.f k x691001).bind fun t695 => ((R1times.f k t692 t695).bind fun t698 => ((R1den.f k x690000 x690001 x690002).bind fun t701 => ((R1den.f k x691000 x691001 x691002).bind fun t704 => ((R1times.f k t701 t704).bind fun t707 => ((R1reduced.f k (x690000 != x691000) t698 t707).bind fun bt710 => (some (bt710.1, bt710.2.1, bt710.2.2)))))))))
def R1Times.f (k : Nat) (a0_0 : Bool) (a0_1 a0_2 : ByteArray) (a1_0 : Bool) (a1_1 a1_2 : ByteArray) : Option (Bool × ByteArray × ByteArray) := if a0_1.toList = ([] : List UInt8) then (R1Times.j0 k true a0_0 a0_1 a0_2 a1_0 a1_1 a1_2) else (R1Times.j0 k (a1_1.toList == ([] : List UInt8)) a0_0 a0_1 a0_2 a1_0 a1_1 a1_2)
def R1Times.T3 : Bool × List (List Nat × List Nat) := (true, [([], []), ([0], [0]), ([], []), ([2], [2]), ([1, 3], [1, 3]), ([], []), ([5], [5]), ([6], [6]), ([], []), ([8], [8]), ([9, 7], [9]), ([7, 10, 10], [7, 10]), ([], []), ([12, 11], [12]), ([], []), ([14, 13], [14]), ([13, 15, 15], [13, 15]), ([4, 11, 16, 16], [4, 11, 16]), ([17, 17, 0, 1, 2, 3, 4, 5, 6, 7, 8, 9, 10, 11, 12, 13, 14, 15, 16, 17], [17])])
def R1Times.B3 : List Nat := [0, 1, 0, 4, 15, 0, 32, 96, 0, 256, 992, 2016, 0, 8160, 0, 32736, 65504, 131071, 262143]
theorem R1Times.tab3 : rtab .any (opsOf Tryz.f25 3) = R1Times.T3 := by kernel_rfl
theorem R1Times.bits3 : waitsOk R1Times.T3.2 R1Times.B3 = true := by kernel_rfl
set_option maxHeartbeats 8000000 in
set_option maxRecDepth 100000 in
theorem R1Times.calls (k : Nat) (a0_0 : Bool) (a0_1 a0_2 : ByteArray) (a1_0 : Bool) (a1_1 a1_2 : ByteArray) (r1 : Bool) (r2 r3 : ByteArray) (w : World) (H : R1Times.f k a0_0 a0_1 a0_2 a1_0 a1_1 a1_2 = some (r1, r2, r3)) :
 Calls Tryz.prog 25 #[.agg #[.bool a0_0, .string a0_1, .string a0_2], .agg #[.bool a1_0, .string a1_1, .string a1_2]] w fun e w' => e = .returned (.agg #[.bool r1, .string r2, .string r3]) ∧ Below w.heap.size w w' := by
 have hu1 := Tryz.underlying23
 have HB := Aside0.mk (Below.refl w.heap.size w)
 unfold R1Times.f at H
 have HC3 := Aside0.mk H
 clear H
 go_enter Tryz.func25, Tryz.ntmps25
 go_upto_region 1 with (first | (refine bxA w 2 #[.bool a0_0, .string a0_1, .string a0_2] 23 fun g1 w2 B1 G1 hg hb HB => ?_; clear hb hg) | (refine bxA w 3 #[.bool a1_0, .string a1_1, .string a1_2] 23 fun g2 w3 B2 G2 hg hb HB => ?_; obtain ⟨N1, N2⟩ := nP B1 hg; replace B1 := bB B1 hb; clear hb hg) | (refine bxZ w 4 23 fun g3 w4 B3 G3 hg hb HB => ?_; obtain ⟨N3, N4⟩ := nP B1 hg; obtain ⟨N5, N6⟩ := nP B2 hg; replace B1 := bB B1 hb; replace B2 := bB B2 hb; clear hb hg))
 (try simp only [Act.put, List.setIfInBounds_toArray, List.set_cons_zero, List.set_cons_succ])
 go_cut [12] (fun v1 wc => ∃ (kq : Nat) (x1 : Bool), v1 = .bool x1 ∧ Aside0 (R1Times.j0 kq x1 a0_0 a0_1 a0_2 a1_0 a1_1 a1_2 = some (r1, r2, r3)) ∧ Aside0 (kq ≤ k) ∧ Aside0 (wc.heap[g1]? = some (.cells #[.bool a0_0, .string a0_1, .string a0_2] 23 (0, 0))) ∧ Aside0 (wc.heap[g2]? = some (.cells #[.bool a1_0, .string a1_1, .string a1_2] 23 (0, 0))) ∧ Aside0 (wc.heap[g3]? = some (.cells #[.bool false, .string (⟨#[]⟩ : ByteArray), .string (⟨#[]⟩ : ByteArray)] 23 (0, 0))) ∧ Aside0 (Below w.heap.size w wc))
 case first =>
  have H := HC3.out
  clear HC3
  replace H := iQ H
  rcases H with ⟨c1b0, c1b1, H⟩ | ⟨c1b0, c1b1, H⟩
  ·(first | rw [c1b0] | (simp only [i64_w, i32_w]; rw [c1b0]) | rw [c1b1] | skip)
   have H' := Aside0.mk H
   clear H
   obtain ⟨_, _, _, _, _, _⟩ := xB3 B1
   go_wp2
   go_meet
   case rel => exact ⟨_, (true), zq1, H', ⟨zq6⟩, ⟨bC B1⟩, ⟨bC B2⟩, ⟨bC B3⟩, ⟨zH⟩⟩
  ·(first | rw [c1b0] | (simp only [i64_w, i32_w]; rw [c1b0]) | rw [c1b1] | skip)
   have H' := Aside0.mk H
   clear H
   obtain ⟨_, _, _, _, _, _⟩ := xB3 B1
   obtain ⟨_, _, _, _, _, _⟩ := xB3 B2
   go_wp2
   go_meet
   case rel => exact ⟨_, ((a1_1.toList == ([] : List UInt8))), zq1, H', ⟨zq6⟩, ⟨bC B1⟩, ⟨bC B2⟩, ⟨bC B3⟩, ⟨zH⟩⟩
 case rest =>
  clear HC3
  obtain ⟨kq, x1, rfl, HA, HJ2, B1, B2, B3, HB⟩ := hcut
  cases kq with
  | zero => exact absurd HA.out (by simp [R1Times.j0])
  | succ kj2 =>
   have H := HA.out
   clear HA
   simp only [R1Times.j0] at H
   by_cases c2 : x1 = true
   ·subst c2
    rw [if_pos rfl] at H
    simp only [Option.some.injEq, Prod.mk.injEq] at H
    obtain ⟨rfl, rfl, rfl⟩ := H
    obtain ⟨_, _, _, _, _, _⟩ := xB3 B3
    go_wp2
    refine pR 23 #[.bool false, .string (⟨#[]⟩ : ByteArray), .string (⟨#[]⟩ : ByteArray)] B3 Tryz.underlying23 ?_
    exact ⟨zE, zH⟩
   ·replace c2 := Bool.eq_false_iff.mpr c2
    subst c2
    rw [if_neg (show ¬ (false = true) by decide)] at H
    replace ⟨t1, A1, H⟩ := bS H
    replace ⟨t2, A2, H⟩ := bS H
    replace ⟨t3, A3, H⟩ := bS H
    replace ⟨t4, A4, H⟩ := bS H
    replace ⟨t5, A5, H⟩ := bS H
    replace ⟨t6, A6, H⟩ := bS H
    replace ⟨⟨t7, t8, t9⟩, A7, H⟩ := bS H
    (try dsimp only at H)
    simp only [Option.some.injEq, Prod.mk.injEq] at H
    obtain ⟨rfl, rfl, rfl⟩ := H
    try go_wp2
    replace B1 := bD B1
    replace B2 := bD B2
    replace B3 := bD B3
    replace HB := hD HB
    refine startC2 19 [] B1 B2 (fun hHeld => ?_); refine with_tabW R1Times.tab3 R1Times.bits3 (fun HT_ HW_ => ?_)
    generalize wc.drew = w5 at B1 B2 B3 HB hHeld ⊢
    refine pA 0 1 ?_
    refine pA 2 5 ?_
    refine pA 5 37 ?_
    refine pA 8 293 ?_
    refine tA 1 295 hHeld ?_
    refine tA 3 303 hHeld ?_
    refine pA 4 319 ?_
    refine tA 6 383 hHeld ?_
    refine tA 9 895 hHeld ?_
    refine tA 12 4991 hHeld ?_
    refine tA 14 21375 hHeld ?_
    refine oA 7 21503 fun K hK => ?_
    refine goes_ Tryz.func46 (by kernel_rfl) rfl #[.string a0_1] (by rfl) rfl rfl zq5 ?_
    with_reducible refine (R1limbs.calls (H := A1.out) ..).mono ?_
    rintro e w6 ⟨v2, rfl, ho0, hb⟩
    refine ⟨_, rfl, ?_⟩
    have O1 := Aside0.mk (Kd.R_lower ho0 (below_size zH))
    replace B1 := bB B1 hb
    replace B2 := bB B2 hb
    replace B3 := bB B3 hb
    replace HB := sB hb
    (try clear hb); (try clear ho0)
    refine hK.out _ _ zK (fun hHeld => ?_)
    clear hK K
    refine normA (N := 21) ?_
    refine oA 10 22527 fun K hK => ?_
    refine goes_ Tryz.func46 (by kernel_rfl) rfl #[.string a1_1] (by rfl) rfl rfl zq5 ?_
    with_reducible refine (R1limbs.calls (H := A2.out) ..).mono ?_
    rintro e w7 ⟨v3, rfl, ho0, hb⟩
    refine ⟨_, rfl, ?_⟩
    have O2 := Aside0.mk (Kd.R_lower (Kd.R_new' ho0 (Kd.R_lt zq2)) (below_size zH))
    replace O1 := Aside0.mk (Kd.R_elder' zq2 (Kd.R_base ho0) hb)
    replace B1 := bB B1 hb
    replace B2 := bB B2 hb
    replace B3 := bB B3 hb
    replace HB := sB hb
    (try clear hb); (try clear ho0)
    obtain ⟨P1, d1, u1⟩ := Kd.R_slice O1.out
    (first | subst u1 | (injection u1 with f1_ f2_ f3_; have f4_ := f1_.symm; have f5_ := f3_.symm; clear f1_ f2_ f3_; subst f4_; subst f5_))
    obtain ⟨P2, d2, u2⟩ := Kd.R_slice O2.out
    (first | subst u2 | (injection u2 with f1_ f2_ f3_; have f4_ := f1_.symm; have f5_ := f3_.symm; clear f1_ f2_ f3_; subst f4_; subst f5_))
    refine hK.out _ _ zK (fun hHeld => ?_)
    clear hK K
    refine normA (N := 24) ?_
    refine oA 11 24575 fun K hK => ?_
    refine goes_ Tryz.func45 (by kernel_rfl) rfl #[.slice P1 t1.length d1, .slice P2 t2.length d2] (by rfl) rfl rfl zq5 ?_
    with_reducible refine (R1times.calls kj2 _ _ t1 _ _ t2 t3 _ ?side1 ?side2 ?side3 ?side4 A3.out).mono ?_
    (case side1 => exact sC (Kd.R_reads' O1.out).2.2)
    (case side2 => exact (Kd.R_reads' O1.out).2.1)
    (case side3 => exact sC (Kd.R_reads' O2.out).2.2)
    (case side4 => exact (Kd.R_reads' O2.out).2.1)
    rintro e w8 ⟨v4, rfl, ho0, hb⟩
    refine ⟨_, rfl, ?_⟩
    have O3 := Aside0.mk (Kd.V_lower (Kd.V_mono (ok' := fun k_ => some k_ ≠ (.slice P1 t1.length d1 : Value).ownBlock ∧ some k_ ≠ (.slice P2 t2.length d2 : Value).ownBlock ∧ k_ ≠ g1 ∧ k_ ≠ g2 ∧ k_ ≠ g3) ho0 (fun k_ hk_ => ⟨(Kd.fresh' (Kd.R_lt zq2) k_ hk_), (Kd.fresh' (Kd.R_lt zq3) k_ hk_), (Kd.freshB (g := g1) (o := .cells #[.bool a0_0, .string a0_1, .string a0_2] 23 (0, 0)) (by (with_reducible repeat (first | refine blk_drewN ?_ _ | refine blk_drew ?_ | refine blk_alloc ?_ _)); exact B1.out) k_ hk_), (Kd.freshB (g := g2) (o := .cells #[.bool a1_0, .string a1_1, .string a1_2] 23 (0, 0)) (by (with_reducible repeat (first | refine blk_drewN ?_ _ | refine blk_drew ?_ | refine blk_alloc ?_ _)); exact B2.out) k_ hk_), (Kd.freshB (g := g3) (o := .cells #[.bool false, .string (⟨#[]⟩ : ByteArray), .string (⟨#[]⟩ : ByteArray)] 23 (0, 0)) (by (with_reducible repeat (first | refine blk_drewN ?_ _ | refine blk_drew ?_ | refine blk_alloc ?_ _)); exact B3.out) k_ hk_)⟩)) (below_size zH))
    replace O1 := rB O1 hb
    replace O2 := rB O2 hb
    replace B1 := bB B1 hb
    replace B2 := bB B2 hb
    replace B3 := bB B3 hb
    replace HB := sB hb
    (try clear hb); (try clear ho0)
    refine hK.out _ _ zK (fun hHeld => ?_)
    clear hK K
    refine normA (N := 25) ?_
    refine oA 13 32767 fun K hK => ?_
    refine goes_ Tryz.func44 (by kernel_rfl) rfl #[.agg #[.bool a0_0, .string a0_1, .string a0_2]] (by rfl) rfl rfl zq5 ?_
    with_reducible refine (R1den.calls (H := A4.out) ..).mono ?_
    rintro e w9 ⟨v5, rfl, ho0, hb⟩
    refine ⟨_, rfl, ?_⟩
    have O4 := Aside0.mk (Kd.R_lower (Kd.R_new' (Kd.R_new' ho0 (Kd.R_lt zq2)) (Kd.R_lt zq3)) (below_size zH))
    replace O1 := Aside0.mk (Kd.R_elder' zq2 (Kd.R_base ho0) hb)
    replace O2 := Aside0.mk (Kd.R_elder' zq3 (Kd.R_base ho0) hb)
    replace O3 := Aside0.mk (Kd.V_elder' zq37 (Kd.R_base ho0) hb)
    replace B1 := bB B1 hb
    replace B2 := bB B2 hb
    replace B3 := bB B3 hb
    replace HB := sB hb
    (try clear hb); (try clear ho0)
    refine hK.out _ _ zK (fun hHeld => ?_)
    clear hK K
    refine normA (N := 27) ?_
    refine oA 15 65535 fun K hK => ?_
    refine goes_ Tryz.func44 (by kernel_rfl) rfl #[.agg #[.bool a1_0, .string a1_1, .string a1_2]] (by rfl) rfl rfl zq5 ?_
    with_reducible refine (R1den.calls (H := A5.out) ..).mono ?_
    rintro e w10 ⟨v6, rfl, ho0, hb⟩
    refine ⟨_, rfl, ?_⟩
    have O5 := Aside0.mk (Kd.R_lower (Kd.R_new' (Kd.R_new' (Kd.R_new' ho0 (Kd.R_lt zq2)) (Kd.R_lt zq3)) (Kd.R_lt zq26)) (below_size zH))
    replace O1 := Aside0.mk (Kd.R_elder' zq2 (Kd.R_base ho0) hb)
    replace O2 := Aside0.mk (Kd.R_elder' zq3 (Kd.R_base ho0) hb)
    replace O3 := Aside0.mk (Kd.V_elder' zq37 (Kd.R_base ho0) hb)
    replace O4 := Aside0.mk (Kd.R_elder' zq26 (Kd.R_base ho0) hb)
    replace B1 := bB B1 hb
    replace B2 := bB B2 hb
    replace B3 := bB B3 hb
    replace HB := sB hb
    (try clear hb); (try clear ho0)
    obtain ⟨P3, d3, u3⟩ := Kd.R_slice O4.out
    (first | subst u3 | (injection u3 with f1_ f2_ f3_; have f4_ := f1_.symm; have f5_ := f3_.symm; clear f1_ f2_ f3_; subst f4_; subst f5_))
    obtain ⟨P4, d4, u4⟩ := Kd.R_slice O5.out
    (first | subst u4 | (injection u4 with f1_ f2_ f3_; have f4_ := f1_.symm; have f5_ := f3_.symm; clear f1_ f2_ f3_; subst f4_; subst f5_))
    refine hK.out _ _ zK (fun hHeld => ?_)
    clear hK K
    refine normA (N := 29) ?_
    refine oA 16 131071 fun K hK => ?_
    refine goes_ Tryz.func45 (by kernel_rfl) rfl #[.slice P3 t4.length d3, .slice P4 t5.length d4] (by rfl) rfl rfl zq5 ?_
    with_reducible refine (R1times.calls kj2 _ _ t4 _ _ t5 t6 _ ?side1 ?side2 ?side3 ?side4 A6.out).mono ?_
    (case side1 => exact sC (Kd.R_reads' O4.out).2.2)
    (case side2 => exact (Kd.R_reads' O4.out).2.1)
    (case side3 => exact sC (Kd.R_reads' O5.out).2.2)
    (case side4 => exact (Kd.R_reads' O5.out).2.1)
    rintro e w11 ⟨v7, rfl, ho0, hb⟩
    refine ⟨_, rfl, ?_⟩
    have O6 := Aside0.mk (Kd.V_lower (Kd.V_mono (ok' := fun k_ => some k_ ≠ (.slice P1 t1.length d1 : Value).ownBlock ∧ some k_ ≠ (.slice P2 t2.length d2 : Value).ownBlock ∧ some k_ ≠ (.slice P3 t4.length d3 : Value).ownBlock ∧ some k_ ≠ (.slice P4 t5.length d4 : Value).ownBlock ∧ k_ ≠ g1 ∧ k_ ≠ g2 ∧ k_ ≠ g3) ho0 (fun k_ hk_ => ⟨(Kd.fresh' (Kd.R_lt zq2) k_ hk_), (Kd.fresh' (Kd.R_lt zq3) k_ hk_), (Kd.fresh' (Kd.R_lt zq26) k_ hk_), (Kd.fresh' (Kd.R_lt zq14) k_ hk_), (Kd.freshB (g := g1) (o := .cells #[.bool a0_0, .string a0_1, .string a0_2] 23 (0, 0)) (by (with_reducible repeat (first | refine blk_drewN ?_ _ | refine blk_drew ?_ | refine blk_alloc ?_ _)); exact B1.out) k_ hk_), (Kd.freshB (g := g2) (o := .cells #[.bool a1_0, .string a1_1, .string a1_2] 23 (0, 0)) (by (with_reducible repeat (first | refine blk_drewN ?_ _ | refine blk_drew ?_ | refine blk_alloc ?_ _)); exact B2.out) k_ hk_), (Kd.freshB (g := g3) (o := .cells #[.bool false, .string (⟨#[]⟩ : ByteArray), .string (⟨#[]⟩ : ByteArray)] 23 (0, 0)) (by (with_reducible repeat (first | refine blk_drewN ?_ _ | refine blk_drew ?_ | refine blk_alloc ?_ _)); exact B3.out) k_ hk_)⟩)) (below_size zH))
    replace O1 := rB O1 hb
    replace O2 := rB O2 hb
    replace O3 := vB O3 hb
    replace O4 := rB O4 hb
    replace O5 := rB O5 hb
    replace B1 := bB B1 hb
    replace B2 := bB B2 hb
    replace B3 := bB B3 hb
    replace HB := sB hb
    (try clear hb); (try clear ho0)
    obtain ⟨P5, d5, u5⟩ := Kd.V_slice O3.out
    (first | subst u5 | (injection u5 with f1_ f2_ f3_; have f4_ := f1_.symm; have f5_ := f3_.symm; clear f1_ f2_ f3_; subst f4_; subst f5_))
    obtain ⟨P6, d6, u6⟩ := Kd.V_slice O6.out
    (first | subst u6 | (injection u6 with f1_ f2_ f3_; have f4_ := f1_.symm; have f5_ := f3_.symm; clear f1_ f2_ f3_; subst f4_; subst f5_))
    refine hK.out _ _ zK (fun hHeld => ?_)
    clear hK K
    refine normA (N := 30) ?_
    refine oA 17 262143 fun K hK => ?_
    refine goes_ Tryz.func47 (by kernel_rfl) rfl #[.bool (a0_0 != a1_0), .slice P5 t3.length d5, .slice P6 t6.length d6] (by rfl) rfl rfl zq5 ?_
    with_reducible refine (R1reduced.calls (H := A7.out) (P1_ := (fun k_ => (((some k_ ≠ (.slice P1 t1.length d1 : Value).ownBlock ∧ (some k_ ≠ (.slice P2 t2.length d2 : Value).ownBlock ∧ (k_ ≠ g1 ∧ (k_ ≠ g2 ∧ k_ ≠ g3)))) ∧ some k_ ≠ (.slice P3 t4.length d3 : Value).ownBlock) ∧ some k_ ≠ (.slice P4 t5.length d4 : Value).ownBlock))) (P2_ := (fun k_ => (some k_ ≠ (.slice P1 t1.length d1 : Value).ownBlock ∧ (some k_ ≠ (.slice P2 t2.length d2 : Value).ownBlock ∧ (some k_ ≠ (.slice P3 t4.length d3 : Value).ownBlock ∧ (some k_ ≠ (.slice P4 t5.length d4 : Value).ownBlock ∧ (k_ ≠ g1 ∧ (k_ ≠ g2 ∧ k_ ≠ g3)))))))) (hs1 := ?side1) (hs2 := ?side2) ..).mono ?_
    (case side1 => exact O3.out)
    (case side2 => exact O6.out)
    rintro e w12 ⟨rfl, hb⟩
    refine ⟨_, rfl, ?_⟩
    replace O1 := rB O1 hb
    replace O2 := rB O2 hb
    replace O3 := vB O3 hb
    replace O4 := rB O4 hb
    replace O5 := rB O5 hb
    replace O6 := vB O6 hb
    replace B1 := bB B1 hb
    replace B2 := bB B2 hb
    replace B3 := bB B3 hb
    replace HB := sB hb
    (try clear hb)
    refine hK.out _ _ zK (fun hHeld => ?_)
    clear hK K
    refine normA (N := 31) ?_
    refine one_ (i := 18) (N := none) (lB 19 524287) rfl rfl (one_of HT_.out (by kernel_rfl)) (by decide) (fun K hK => ?_)
    have hs41 := cB B3 0 (.bool false)
    have hfs41 := fB B3 0
    have hs42 := cB B3 1 (.string (⟨#[]⟩ : ByteArray))
    have hfs42 := fB B3 1
    have hs43 := cB B3 2 (.string (⟨#[]⟩ : ByteArray))
    have hfs43 := fB B3 2
    refine skip_ (w1 := ?_) (by rfl) rfl ?_ ?_
    rotate_left
    ·go_simp
     rfl
    refine hK.out _ _ zC (fun hHeld => ?_)
    clear hK K
    refine done_ (done_of HT_.out (by kernel_rfl)) ?_
    try go_wp2
    refine pR 23 #[.bool t7, .string t8, .string t9] B3 Tryz.underlying23 ?_
    exact ⟨zE, zH⟩
end Go.Proofs.YtggfilmdfpmbmaaGreatDoor.QN
end
