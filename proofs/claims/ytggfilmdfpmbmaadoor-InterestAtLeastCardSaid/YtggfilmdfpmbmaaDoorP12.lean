/-
  Steps and laws behind the statement that the claim's last text proves: the words of the walks, the walks of the Go functions (printed by a program of this session's own, then shortened by one), and what they compute. Conditions: stated at each theorem.
-/
import Derived.Test.YtggfilmdfpmbmaaDoorP9
import Derived.Test.YtggfilmdfpmbmaaDoorP5
import Derived.Test.YtggfilmdfpmbmaaDoorP4
import Derived.Test.YtggfilmdfpmbmaaDoorP0
section
namespace Go.Proofs.YtggfilmdfpmbmaaDoor.QN
open Go.RowKit Go.Proofs.YtggfilmdfpmbmaaDoorW.PrintWords Go.Proofs.YtggfilmdfpmbmaaDoorW.PrintLast Go.Proofs.YtggfilmdfpmbmaaDoorW.PrintMore
attribute [local go_sem] max2_int min2_int max_two min_two max_three min_three max_four min_four
set_option linter.unusedVariables false
set_option linter.unusedSimpArgs false
attribute [local go_sem high] eqA29
def I1Rate.l0 : Nat → Int → List (S54) → Int → Int → Bool → ByteArray → ByteArray → Option (Bool × ByteArray × ByteArray × Int)
 | 0, _, _, _, _, _, _, _ => none
 | k + 1, x1, x21, x22, x23, x842000, x842001, x842002 => if x23 < x22 then (if 0 ≤ x23 then (if x23 < (x21.length : Int) then (if ((rd_T54 x21 x23).f0) ≤ x1 then (I1Rate.l0 k x1 x21 x22 (wrap64 (x23 + 1)) ((rd_T54 x21 x23).f1.f0) ((rd_T54 x21 x23).f1.f1) ((rd_T54 x21 x23).f1.f2)) else (I1Rate.l0 k x1 x21 x22 (wrap64 (x23 + 1)) x842000 x842001 x842002)) else (none)) else (none)) else ((Q1Add.f k x842000 x842001 x842002 false (⟨#[]⟩ : ByteArray) (⟨#[]⟩ : ByteArray)).bind fun bt844 => (some (bt844.1, bt844.2.1, bt844.2.2, 0)))
def I1Rate.f (k : Nat) (l0 : List (S54)) (a1 : Int) : Option (Bool × ByteArray × ByteArray × Int) := (I1Check.f k l0).bind fun t839 => (if t839 = 0 then ((I1isDay.f a1).bind fun t840 => (if t840 = true then (I1Rate.l0 k a1 l0 (l0.length : Int) 0 false (⟨#[]⟩ : ByteArray) (⟨#[]⟩ : ByteArray)) else (some (false, (⟨#[]⟩ : ByteArray), (⟨#[]⟩ : ByteArray), 1)))) else (some (false, (⟨#[]⟩ : ByteArray), (⟨#[]⟩ : ByteArray), t839)))
set_option maxHeartbeats 8000000 in
set_option maxRecDepth 100000 in
theorem I1Rate.calls (k : Nat) (A0 : Option Addr) (c0 : Nat) (l0 : List (S54)) (a1 : Int) (r1 : Bool) (r2 r3 : ByteArray) (r4 : Int) (w : World) (hr0 : Kd.C k54 w A0 l0.length l0) (hc0 : l0.length ≤ c0) (H : I1Rate.f k l0 a1 = some (r1, r2, r3, r4)) :
 Calls Tryd.prog 22 #[.slice A0 l0.length c0, .int .i64 a1] w fun e w' => e = .returned (.tuple #[.agg #[.bool r1, .string r2, .string r3], .int .i64 r4]) ∧ Below w.heap.size w w' := by
 have hu1 := Tryd.underlying29
 have hu2 := Tryd.underlying54
 have HR0 := Aside0.mk hr0
 have HC0 := Aside0.mk hc0
 clear hr0 hc0
 have HB := Aside0.mk (Below.refl w.heap.size w)
 unfold I1Rate.f at H
 replace ⟨t1, A1, H⟩ := bS H
 replace H := iQ H
 rcases H with ⟨c1b0, c1b1, H⟩ | ⟨c1b0, c1b1, H⟩
 ·replace ⟨t2, A2, H⟩ := bS H
  by_cases c2 : t2 = true
  ·subst c2
   rw [if_pos rfl] at H
   have H' := Aside0.mk H
   clear H
   go_enter Tryd.func22, Tryd.ntmps22
   go_wp2_with (first | (refine bxZ w 4 29 fun g1 w1 B1 G1 hg hb HB => ?_; clear hb hg) | (refine gB 11 Tryd.func12 (I1Check.calls k _ _ l0 t1 _ ?side1 ?side2 A1.out) fun w2 hb HB => ?_; (case side1 => exact sC (Kd.C_below HR0.out HB.out)); (case side2 => exact HC0.out); replace B1 := bB B1 hb; clear hb) | (refine gF 17 Tryd.func29 (I1isDay.calls a1 true _ A2.out) fun w2 hb HB => ?_; replace B1 := bB B1 hb; clear hb) | (refine bxZ w 7 29 fun g2 w3 B2 G2 hg hb HB => ?_; obtain ⟨N1, N2⟩ := nP B1 hg; replace B1 := bB B1 hb; clear hb hg; have m1 := N2; have n1 := N1; obtain ⟨_, _, _, _, _, _⟩ := xB3 B2))
   go_loopg [23] k (fun kq v1 w' => ∃ (x1 : Int) (x2 : Bool) (x3 : ByteArray) (x4 : ByteArray), v1 = .int .i64 x1 ∧ Aside0 (I1Rate.l0 kq a1 l0 (l0.length : Int) x1 x2 x3 x4 = some (r1, r2, r3, r4)) ∧ Aside0 (kq ≤ k) ∧ Aside0 (w'.heap[g1]? = some (.cells #[.bool false, .string (⟨#[]⟩ : ByteArray), .string (⟨#[]⟩ : ByteArray)] 29 (0, 0))) ∧ Aside0 (w'.heap[g2]? = some (.cells #[.bool x2, .string x3, .string x4] 29 (0, 0))) ∧ Aside0 (Below w.heap.size w w'))
   case atStart => exact ⟨(0), (false), ((⟨#[]⟩ : ByteArray)), ((⟨#[]⟩ : ByteArray)), zq1, H', ⟨Nat.le_refl _⟩, ⟨bC B1⟩, ⟨bC B2⟩, ⟨zH⟩⟩
   case round =>
    clear H'
    obtain ⟨x1, x2, x3, x4, rfl, HA, HK1, B1, B2, HB⟩ := hrel
    cases gk with
    | zero => exact absurd HA.out (by simp [I1Rate.l0])
    | succ k1 =>
     have H := HA.out
     clear HA
     simp only [I1Rate.l0] at H
     replace H := iL H
     rcases H with ⟨c3b0, H⟩ | ⟨c3b0, H⟩
     ·replace ⟨c4b0, H⟩ := iteD H
      replace ⟨c5b0, H⟩ := iteD H
      replace H := iL H
      rcases H with ⟨c6b0, H⟩ | ⟨c6b0, H⟩
      ·have H' := Aside0.mk H
       clear H
       have p1 : 0 ≤ (x1 : Int) := of_decide_eq_true zq0
       have q1 : x1 < (l0.length : Int) := of_decide_eq_true zq0
       obtain ⟨ad1, e1, hx1, hx2, hx3, hx4⟩ := at_T54 HR0.out x1 p1 q1
       cases e1
       (try replace hx1 := hM HB hx1)
       (try replace hx2 := hM HB hx2)
       (try replace hx3 := hM HB hx3)
       (try replace hx4 := hM HB hx4)
       replace p1 := eq_true p1
       replace q1 := eq_true q1
       go_wp2_with (refine bxA w 9 #[.int .i64 0, .bool false, .string (⟨#[]⟩ : ByteArray), .string (⟨#[]⟩ : ByteArray)] 54 fun g3 w4 B3 G3 hg hb HB => ?_; obtain ⟨N3, N4⟩ := nP B1 hg; obtain ⟨N5, N6⟩ := nP B2 hg; replace B1 := bB B1 hb; replace B2 := bB B2 hb; clear hb hg; have m2 := N4; have n2 := N3; have m3 := N6; have n3 := N5; obtain ⟨_, _, _, _, _, _, _, _⟩ := xB4 B3; have m4 := N2; have n4 := N1; obtain ⟨_, _, _, _, _, _⟩ := xB3 B2)
       go_roundg k1
       case measure => have := HK1.out; omega
       case rel => exact ⟨(wrap64 (x1 + 1)), ((rd_T54 l0 x1).f1.f0), ((rd_T54 l0 x1).f1.f1), ((rd_T54 l0 x1).f1.f2), zq1, H', ⟨zq3⟩, ⟨bC B1⟩, ⟨bC B2⟩, ⟨zH⟩⟩
      ·have H' := Aside0.mk H
       clear H
       have p1 : 0 ≤ (x1 : Int) := of_decide_eq_true zq0
       have q1 : x1 < (l0.length : Int) := of_decide_eq_true zq0
       obtain ⟨ad1, e1, hx1, hx2, hx3, hx4⟩ := at_T54 HR0.out x1 p1 q1
       cases e1
       (try replace hx1 := hM HB hx1)
       (try replace hx2 := hM HB hx2)
       (try replace hx3 := hM HB hx3)
       (try replace hx4 := hM HB hx4)
       replace p1 := eq_true p1
       replace q1 := eq_true q1
       go_wp2_with (refine bxA w 9 #[.int .i64 0, .bool false, .string (⟨#[]⟩ : ByteArray), .string (⟨#[]⟩ : ByteArray)] 54 fun g3 w4 B3 G3 hg hb HB => ?_; obtain ⟨N3, N4⟩ := nP B1 hg; obtain ⟨N5, N6⟩ := nP B2 hg; replace B1 := bB B1 hb; replace B2 := bB B2 hb; clear hb hg; have m2 := N4; have n2 := N3; have m3 := N6; have n3 := N5; obtain ⟨_, _, _, _, _, _, _, _⟩ := xB4 B3)
       go_roundg k1
       case measure => have := HK1.out; omega
       case rel => exact ⟨(wrap64 (x1 + 1)), (x2), (x3), (x4), zq1, H', ⟨zq3⟩, ⟨bC B1⟩, ⟨bC B2⟩, ⟨zH⟩⟩
     ·replace ⟨⟨t3, t4, t5⟩, A3, H⟩ := bS H
      (try dsimp only at H)
      simp only [Option.some.injEq, Prod.mk.injEq] at H
      obtain ⟨rfl, rfl, rfl, rfl⟩ := H
      obtain ⟨_, _, _, _, _, _⟩ := xB3 B2
      go_wp2_with (refine gB 36 Tryd.func20 (Q1Add.calls _ _ _ _ _ _ _ _ _ _ _ A3.out) fun w4 hb HB => ?_; replace B1 := bB B1 hb; replace B2 := bB B2 hb; clear hb; obtain ⟨_, _, _, _, _, _⟩ := xB3 B1)
      refine pRt 29 #[.bool t3, .string t4, .string t5] B1 Tryd.underlying29 ?_
      exact ⟨zE, zH⟩
  ·replace c2 := Bool.eq_false_iff.mpr c2
   subst c2
   rw [if_neg (show ¬ (false = true) by decide)] at H
   simp only [Option.some.injEq, Prod.mk.injEq] at H
   obtain ⟨rfl, rfl, rfl, rfl⟩ := H
   go_enter Tryd.func22, Tryd.ntmps22
   go_wp2_with (first | (refine bxZ w 4 29 fun g1 w1 B1 G1 hg hb HB => ?_; clear hb hg) | (refine gB 11 Tryd.func12 (I1Check.calls k _ _ l0 t1 _ ?side1 ?side2 A1.out) fun w2 hb HB => ?_; (case side1 => exact sC (Kd.C_below HR0.out HB.out)); (case side2 => exact HC0.out); replace B1 := bB B1 hb; clear hb) | (refine gF 17 Tryd.func29 (I1isDay.calls _ _ _ A2.out) fun w2 hb HB => ?_; replace B1 := bB B1 hb; clear hb; obtain ⟨_, _, _, _, _, _⟩ := xB3 B1))
   refine pRt 29 #[.bool false, .string (⟨#[]⟩ : ByteArray), .string (⟨#[]⟩ : ByteArray)] B1 Tryd.underlying29 ?_
   exact ⟨zE, zH⟩
 ·simp only [Option.some.injEq, Prod.mk.injEq] at H
  obtain ⟨rfl, rfl, rfl, rfl⟩ := H
  go_enter Tryd.func22, Tryd.ntmps22
  go_wp2_with (first | (refine bxZ w 4 29 fun g1 w1 B1 G1 hg hb HB => ?_; clear hb hg) | (refine gB 11 Tryd.func12 (I1Check.calls k _ _ l0 t1 _ ?side1 ?side2 A1.out) fun w2 hb HB => ?_; (case side1 => exact sC (Kd.C_below HR0.out HB.out)); (case side2 => exact HC0.out); replace B1 := bB B1 hb; clear hb; obtain ⟨_, _, _, _, _, _⟩ := xB3 B1))
  refine pRt 29 #[.bool false, .string (⟨#[]⟩ : ByteArray), .string (⟨#[]⟩ : ByteArray)] B1 Tryd.underlying29 ?_
  exact ⟨zE, zH⟩
end Go.Proofs.YtggfilmdfpmbmaaDoor.QN
end
section
namespace Go.Proofs.YtggfilmdfpmbmaaDoor.QN
open Go.RowKit Go.Proofs.YtggfilmdfpmbmaaDoorW.PrintWords Go.Proofs.YtggfilmdfpmbmaaDoorW.PrintLast Go.Proofs.YtggfilmdfpmbmaaDoorW.PrintMore
attribute [local go_sem] max2_int min2_int max_two min_two max_three min_three max_four min_four
set_option linter.unusedVariables false
set_option linter.unusedSimpArgs false
attribute [local go_sem high] eqA29
set_option maxHeartbeats 8000000
set_option maxRecDepth 100000
def L0Ratio.f (k : Nat) (a0 a1 : Int) : Option (Bool × ByteArray × ByteArray) := (R1Fraction.f k a0 a1).bind fun bt911 => (some (bt911.1, bt911.2.1, bt911.2.2.1))
theorem L0Ratio.calls (k : Nat) (a0 a1 : Int) (r1 : Bool) (r2 r3 : ByteArray) (w : World) (H : L0Ratio.f k a0 a1 = some (r1, r2, r3)) :
 Calls Tryd.prog 27 #[.int .i64 a0, .int .i64 a1] w fun e w' => e = .returned (.agg #[.bool r1, .string r2, .string r3]) ∧ Below w.heap.size w w' := by
 have hu1 := Tryd.underlying29
 have HB := Aside0.mk (Below.refl w.heap.size w)
 unfold L0Ratio.f at H
 replace ⟨⟨t1, t2, t3, t4⟩, A1, H⟩ := bS H
 (try dsimp only at H)
 simp only [Option.some.injEq, Prod.mk.injEq] at H
 obtain ⟨rfl, rfl, rfl⟩ := H
 go_enter Tryd.func27, Tryd.ntmps27
 go_wp2_with (first | (refine bxZ w 4 29 fun g1 w1 B1 G1 hg hb HB => ?_; clear hb hg) | (refine gB 10 Tryd.func52 (R1Fraction.calls _ _ _ _ _ _ _ _ A1.out) fun w2 hb HB => ?_; replace B1 := bB B1 hb; clear hb) | (refine bxZ w 5 29 fun g2 w3 B2 G2 hg hb HB => ?_; obtain ⟨N1, N2⟩ := nP B1 hg; replace B1 := bB B1 hb; clear hb hg; have m1 := N2; have n1 := N1; obtain ⟨_, _, _, _, _, _⟩ := xB3 B2; obtain ⟨_, _, _, _, _, _⟩ := xB3 B1))
 refine pR 29 #[.bool t1, .string t2, .string t3] B1 Tryd.underlying29 ?_
 exact ⟨zE, zH⟩
def L0Steps.l0 : Nat → List (S64) → List (S54) → Int → Int → Option ((List (S54)))
 | 0, _, _, _, _ => none
 | k + 1, x0, x3, x4, x5 => if x5 < (x0.length : Int) then (if x5 < 5 then (if 0 ≤ x5 then ((L0Ratio.f k (wrap64 (Int.tmod ((rd_T64 x0 x5).f1) 12)) 100).bind fun bt918 => (if x3.length < 2932031007402 then ((some (x3 ++ [(⟨wrap64 (x4 + (wrap64 (Int.tmod ((rd_T64 x0 x5).f0) 60))), (⟨bt918.1, bt918.2.1, bt918.2.2⟩ : S29)⟩ : S54)] : List (S54))).bind fun y921 => (if x5 < (y921.length : Int) then (L0Steps.l0 k x0 y921 (wrap64 (((rd_T54 y921 x5).f0) + 1)) (wrap64 (x5 + 1))) else (none))) else (none))) else (none)) else (some x3)) else (some x3)
def L0Steps.f (k : Nat) (l0 : List (S64)) : Option ((List (S54))) := L0Steps.l0 k l0 ([] : List (S54)) 0 0
def L0Steps.T6 : Bool × List (List Nat × List Nat) := (true, [([], []), ([], []), ([], []), ([], []), ([2, 3], [2, 3]), ([4], [4]), ([5], [5]), ([6], [6]), ([7], [7]), ([1, 8], [1, 8]), ([], []), ([], []), ([10, 11], [10, 11]), ([12], [12]), ([13], [13]), ([14], [14]), ([15], [15]), ([16], [16]), ([9, 17], [9, 17]), ([18], [18]), ([0, 19, 17], [0, 19]), ([20, 20, 0, 1, 2, 3, 4, 5, 6, 7, 8, 9, 10, 11, 12, 13, 14, 15, 16, 17, 18, 19, 20], [0, 20])])
def L0Steps.B6 : List Nat := [0, 0, 0, 0, 12, 28, 60, 124, 252, 510, 0, 0, 3072, 7168, 15360, 31744, 64512, 130048, 262142, 524286, 1048575, 2097151]
theorem L0Steps.tab6 : rtab .any (opsOf Tryd.f17 6) = L0Steps.T6 := by kernel_rfl
theorem L0Steps.bits6 : waitsOk L0Steps.T6.2 L0Steps.B6 = true := by kernel_rfl
theorem L0Steps.calls (k : Nat) (A0 : Option Addr) (c0 : Nat) (l0 : List (S64)) (r : List (S54)) (w : World) (hr0 : Kd.C k64 w A0 l0.length l0) (hc0 : l0.length ≤ c0) (H : L0Steps.f k l0 = some r) :
 Calls Tryd.prog 17 #[.slice A0 l0.length c0] w fun e w' => ∃ v0_ : Value, e = .returned (v0_) ∧ Kd.R k54 54 w' w.heap.size (fun _ => True) v0_ r ∧ Below w.heap.size w w' := by
 have hu1 := Tryd.underlying54
 have HR0 := Aside0.mk hr0
 have HC0 := Aside0.mk hc0
 clear hr0 hc0
 have HB := Aside0.mk (Below.refl w.heap.size w)
 unfold L0Steps.f at H
 have H' := Aside0.mk H
 clear H
 go_enter Tryd.func17, Tryd.ntmps17
 go_wp2
 go_loopg [3, 4, 5] k (fun kq v1 v2 v3 w' => ∃ (x1 : List (S54)) (x2 : Int) (x3 : Int), v2 = .int .i64 x2 ∧ v3 = .int .i64 x3 ∧ Aside0 (L0Steps.l0 kq l0 x1 x2 x3 = some r) ∧ Aside0 (kq ≤ k) ∧ Aside0 (Kd.R k54 54 w' w.heap.size (fun _ => True) v1 x1) ∧ Aside0 (Below w.heap.size w w'))
 case atStart => exact ⟨(([] : List (S54))), (0), (0), zq1, zq1, H', ⟨Nat.le_refl _⟩, ⟨zq35⟩, ⟨zH⟩⟩
 case round =>
  clear H'
  obtain ⟨x1, x2, x3, rfl, rfl, HA, HK1, HO_3, HB⟩ := hrel
  cases gk with
  | zero => exact absurd HA.out (by simp [L0Steps.l0])
  | succ k1 =>
   have H := HA.out
   clear HA
   simp only [L0Steps.l0] at H
   replace H := iL H
   rcases H with ⟨c1b0, H⟩ | ⟨c1b0, H⟩
   ·replace H := iL H
    rcases H with ⟨c2b0, H⟩ | ⟨c2b0, H⟩
    ·replace ⟨c3b0, H⟩ := iteD H
     replace ⟨⟨t1, t2, t3⟩, A1, H⟩ := bS H
     (try dsimp only at H)
     replace H := of_ite H
     obtain ⟨c4, H⟩ := H
     have LMc6 := Aside0.mk c4
     clear c4
     replace ⟨y1, Y1, H⟩ := bY H
     replace ⟨c5b0, H⟩ := iteD H
     have H' := Aside0.mk H
     clear H
     try go_wp2
     replace HO_3 := rD HO_3
     replace HB := hD HB
     have p1 : 0 ≤ (x3 : Int) := of_decide_eq_true zq0
     have q1 : x3 < (l0.length : Int) := of_decide_eq_true zq0
     obtain ⟨ad1, e1, hx1, hx2⟩ := at_T64 HR0.out x3 p1 q1
     have hw916_1 := hx2
     have hw916_0 := hx1
     cases e1
     (try replace hx1 := hM HB hx1)
     (try replace hx2 := hM HB hx2)
     replace p1 := eq_true p1
     replace q1 := eq_true q1
     have p2 : 0 ≤ (x3 : Int) := of_decide_eq_true zq0
     have q2 : x3 < (l0.length : Int) := of_decide_eq_true zq0
     obtain ⟨ad2, e2, hx3, hx4⟩ := at_T64 HR0.out x3 p2 q2
     have hw917_1 := hx4
     have hw917_0 := hx3
     obtain rfl : ad1 = ad2 := (by injection e2)
     (try replace hx3 := hM HB hx3)
     (try replace hx4 := hM HB hx4)
     replace p2 := eq_true p2
     replace q2 := eq_true q2
     refine startA 22 (S := fun w' => w'.cell? (ad1.add ((x3).toNat * 2)) = some (.int .u16 ((rd_T64 l0 x3).f0)) ∧ w'.cell? ⟨(ad1.add ((x3).toNat * 2)).block, (ad1.add ((x3).toNat * 2)).off + 1, none⟩ = some (.int .u16 ((rd_T64 l0 x3).f1)) ∧ w'.cell? (ad1.add ((x3).toNat * 2)) = some (.int .u16 ((rd_T64 l0 x3).f0)) ∧ w'.cell? ⟨(ad1.add ((x3).toNat * 2)).block, (ad1.add ((x3).toNat * 2)).off + 1, none⟩ = some (.int .u16 ((rd_T64 l0 x3).f1))) (ds := []) ⟨((HB.out.cell (World.block_lt_of_cell? w _ hw916_0)).trans hw916_0), ((HB.out.cell (World.block_lt_of_cell? w _ hw916_1)).trans hw916_1), ((HB.out.cell (World.block_lt_of_cell? w _ hw917_0)).trans hw917_0), ((HB.out.cell (World.block_lt_of_cell? w _ hw917_1)).trans hw917_1)⟩ (fun hHeld => ?_); refine with_tabW L0Steps.tab6 L0Steps.bits6 (fun HT_ HW_ => ?_)
     generalize wr.drew = w2 at HO_3 HB hx1 hx2 hx3 hx4 hHeld ⊢
     refine pA 0 1 ?_
     refine pA 1 3 ?_
     refine pA 2 7 ?_
     refine pA 3 15 ?_
     refine pA 4 31 ?_
     refine pA 5 63 ?_
     refine pA 10 1087 ?_
     refine pA 11 3135 ?_
     refine pA 12 7231 ?_
     refine pA 13 15423 ?_
     refine tA 6 15487 hHeld ?_
     refine pA 7 15615 ?_
     refine pA 8 15871 ?_
     refine pA 9 16383 ?_
     refine tA 14 32767 hHeld ?_
     refine pA 15 65535 ?_
     refine pA 16 131071 ?_
     refine oA 17 262143 fun K hK => ?_
     refine goes_ Tryd.func27 (by kernel_rfl) rfl #[.int .i64 (wrap64 (Int.tmod ((rd_T64 l0 x3).f1) 12)), .int .i64 100] (by rfl) rfl rfl zq5 ?_
     with_reducible refine (L0Ratio.calls (H := A1.out) ..).mono ?_
     rintro e w3 ⟨rfl, hb⟩
     refine ⟨_, rfl, ?_⟩
     replace HO_3 := rB HO_3 hb
     replace HB := sB hb
     (try clear hb)
     refine hK.out _ _ ⟨((HB.out.cell (World.block_lt_of_cell? w _ hw916_0)).trans hw916_0), ((HB.out.cell (World.block_lt_of_cell? w _ hw916_1)).trans hw916_1), ((HB.out.cell (World.block_lt_of_cell? w _ hw917_0)).trans hw917_0), ((HB.out.cell (World.block_lt_of_cell? w _ hw917_1)).trans hw917_1)⟩ (fun hHeld => ?_)
     clear hK K
     refine normA (N := 33) ?_
     refine pA 18 524287 ?_
     refine oA 19 1048575 fun K hK => ?_
     refine value_ (w1 := ?_) (v := ?_) (by rfl) rfl ?_ ?_
     rotate_left 2
     ·go_simp
      constructor
      ·rfl
      ·rfl
     refine hK.out _ _ ⟨(World.cell?_alloc_lt _ _ _ (World.block_lt_of_cell? _ _ (((HB.out.cell (World.block_lt_of_cell? w _ hw916_0)).trans hw916_0)))).trans (((HB.out.cell (World.block_lt_of_cell? w _ hw916_0)).trans hw916_0)), (World.cell?_alloc_lt _ _ _ (World.block_lt_of_cell? _ _ (((HB.out.cell (World.block_lt_of_cell? w _ hw916_1)).trans hw916_1)))).trans (((HB.out.cell (World.block_lt_of_cell? w _ hw916_1)).trans hw916_1)), (World.cell?_alloc_lt _ _ _ (World.block_lt_of_cell? _ _ (((HB.out.cell (World.block_lt_of_cell? w _ hw917_0)).trans hw917_0)))).trans (((HB.out.cell (World.block_lt_of_cell? w _ hw917_0)).trans hw917_0)), (World.cell?_alloc_lt _ _ _ (World.block_lt_of_cell? _ _ (((HB.out.cell (World.block_lt_of_cell? w _ hw917_1)).trans hw917_1)))).trans (((HB.out.cell (World.block_lt_of_cell? w _ hw917_1)).trans hw917_1))⟩ (fun hHeld => ?_)
     clear hK K
     refine normA (N := 35) ?_
     refine oA 20 2097151 fun K hK => ?_
     refine Kd.R_append_step k54 (w0 := w) w.heap.size (by rfl) (.tmp 16) (.tmp 35) 22 54 (.agg #[(.int .i64 0), (.bool false), (.string ⟨#[]⟩), (.string ⟨#[]⟩)]) 48 rfl Tryd.underlying22 info54 rfl (by decide) (by omega) u3 x1 (⟨wrap64 (x2 + (wrap64 (Int.tmod ((rd_T64 l0 x3).f0) 60))), (⟨t1, t2, t3⟩ : S29)⟩ : S54) [.int .i64 (wrap64 (x2 + (wrap64 (Int.tmod ((rd_T64 l0 x3).f0) 60)))), .bool t1, .string t2, .string t3] (fun _ => True) (fun _ => False) rfl rfl ?aP (fun _ hk => hk.elim) ?aF ?aO ?aB ?aS ?aL ?_
     (case aP => exact k54_mkM _ _ _ (⟨wrap64 (x2 + (wrap64 (Int.tmod ((rd_T64 l0 x3).f0) 60))), (⟨t1, t2, t3⟩ : S29)⟩ : S54))
     (case aB => exact zH)
     (case aF => exact (fun _ _ => trivial))
     (case aO => exact zq52)
     (case aS => exact (below_size zH))
     (case aL => have := LMc6.out; omega)
     intro v4 w4 ho hb hg hat
     rw [← Y1.out] at ho
     have n0_ := Aside0.mk (hb)
     have n1_ := Aside0.mk (ho)
     clear HB HO_3
     have HB := n0_
     have O1 := n1_
     clear n0_ n1_ ho hb hg hat
     refine hK.out _ _ ⟨((HB.out.cell (World.block_lt_of_cell? w _ hw916_0)).trans hw916_0), ((HB.out.cell (World.block_lt_of_cell? w _ hw916_1)).trans hw916_1), ((HB.out.cell (World.block_lt_of_cell? w _ hw917_0)).trans hw917_0), ((HB.out.cell (World.block_lt_of_cell? w _ hw917_1)).trans hw917_1)⟩ (fun hHeld => ?_)
     clear hK K
     refine normA (N := 36) ?_
     refine pA 21 4194303 ?_
     refine done_ (done_of HT_.out (by kernel_rfl)) ?_
     obtain ⟨P1, d1, u1⟩ := Kd.R_slice O1.out
     subst u1
     have p3 : 0 ≤ (x3 : Int) := of_decide_eq_true zq0
     have q3 : x3 < (y1.length : Int) := of_decide_eq_true zq0
     obtain ⟨ad3, e3, hx5, hx6, hx7, hx8⟩ := at_T54 (Kd.R_reads' O1.out).2.2 x3 p3 q3
     cases e3
     replace p3 := eq_true p3
     replace q3 := eq_true q3
     try go_wp2
     go_roundg k1
     case measure => have := HK1.out; omega
     case rel => exact ⟨(y1), (wrap64 (((rd_T54 y1 x3).f0) + 1)), (wrap64 (x3 + 1)), zq1, zq1, H', ⟨zq3⟩, ⟨zR⟩, ⟨zH⟩⟩
    ·obtain rfl := sI H
     go_wp2
     go_ret
     exact ⟨_, zE, zR, zH⟩
   ·obtain rfl := sI H
    go_wp2
    go_ret
    exact ⟨_, zE, zR, zH⟩
def L0Whole.f (k : Nat) (a0 : Int) : Option (Bool × ByteArray × ByteArray) := (R1Int.f k a0).bind fun bt926 => (some (bt926.1, bt926.2.1, bt926.2.2))
theorem L0Whole.calls (k : Nat) (a0 : Int) (r1 : Bool) (r2 r3 : ByteArray) (w : World) (H : L0Whole.f k a0 = some (r1, r2, r3)) :
 Calls Tryd.prog 28 #[.int .i64 a0] w fun e w' => e = .returned (.agg #[.bool r1, .string r2, .string r3]) ∧ Below w.heap.size w w' := by
 have hu1 := Tryd.underlying29
 have HB := Aside0.mk (Below.refl w.heap.size w)
 unfold L0Whole.f at H
 replace ⟨⟨t1, t2, t3⟩, A1, H⟩ := bS H
 (try dsimp only at H)
 simp only [Option.some.injEq, Prod.mk.injEq] at H
 obtain ⟨rfl, rfl, rfl⟩ := H
 go_enter Tryd.func28, Tryd.ntmps28
 go_wp2_with (first | (refine bxZ w 2 29 fun g1 w1 B1 G1 hg hb HB => ?_; clear hb hg) | (refine gB 4 Tryd.func40 (R1Int.calls _ _ _ _ _ _ A1.out) fun w2 hb HB => ?_; replace B1 := bB B1 hb; clear hb; obtain ⟨_, _, _, _, _, _⟩ := xB3 B1))
 refine pR 29 #[.bool t1, .string t2, .string t3] B1 Tryd.underlying29 ?_
 exact ⟨zE, zH⟩
def L0Amount.f (k : Nat) (a0 : Int) : Option (Bool × ByteArray × ByteArray) := if (Int.tmod a0 5) = 0 then ((L0Ratio.f k (wrap64 (Int.tmod (IntKind.u16.wrap (Int.tdiv a0 5)) 23)) (wrap64 (1 + (wrap64 (Int.tmod (IntKind.u16.wrap (Int.tdiv a0 115)) 6))))).bind fun bt930 => (some (bt930.1, bt930.2.1, bt930.2.2))) else (if (Int.tmod a0 5) = 1 then ((L0Whole.f k (wrap64 (10 * (wrap64 (Int.tmod (IntKind.u16.wrap (Int.tdiv a0 5)) 4))))).bind fun bt933 => (some (bt933.1, bt933.2.1, bt933.2.2))) else ((L0Whole.f k (wrap64 (Int.tmod (IntKind.u16.wrap (Int.tdiv a0 5)) 13))).bind fun bt936 => (some (bt936.1, bt936.2.1, bt936.2.2))))
theorem L0Amount.calls (k : Nat) (a0 : Int) (r1 : Bool) (r2 r3 : ByteArray) (w : World) (H : L0Amount.f k a0 = some (r1, r2, r3)) :
 Calls Tryd.prog 18 #[.int .u16 a0] w fun e w' => e = .returned (.agg #[.bool r1, .string r2, .string r3]) ∧ Below w.heap.size w w' := by
 have hu1 := Tryd.underlying29
 have HB := Aside0.mk (Below.refl w.heap.size w)
 unfold L0Amount.f at H
 replace H := iQ H
 rcases H with ⟨c1b0, c1b1, H⟩ | ⟨c1b0, c1b1, H⟩
 ·replace ⟨⟨t1, t2, t3⟩, A1, H⟩ := bS H
  (try dsimp only at H)
  simp only [Option.some.injEq, Prod.mk.injEq] at H
  obtain ⟨rfl, rfl, rfl⟩ := H
  go_enter Tryd.func18, Tryd.ntmps18
  go_wp2_with (first | (refine bxZ w 2 29 fun g1 w1 B1 G1 hg hb HB => ?_; clear hb hg) | (refine gB 16 Tryd.func27 (L0Ratio.calls _ _ _ _ _ _ _ A1.out) fun w2 hb HB => ?_; replace B1 := bB B1 hb; clear hb; obtain ⟨_, _, _, _, _, _⟩ := xB3 B1))
  refine pR 29 #[.bool t1, .string t2, .string t3] B1 Tryd.underlying29 ?_
  exact ⟨zE, zH⟩
 ·replace H := iQ H
  rcases H with ⟨c2b0, c2b1, H⟩ | ⟨c2b0, c2b1, H⟩
  ·replace ⟨⟨t1, t2, t3⟩, A1, H⟩ := bS H
   (try dsimp only at H)
   simp only [Option.some.injEq, Prod.mk.injEq] at H
   obtain ⟨rfl, rfl, rfl⟩ := H
   go_enter Tryd.func18, Tryd.ntmps18
   go_wp2_with (first | (refine bxZ w 2 29 fun g1 w1 B1 G1 hg hb HB => ?_; clear hb hg) | (refine gB 24 Tryd.func28 (L0Whole.calls _ _ _ _ _ _ A1.out) fun w2 hb HB => ?_; replace B1 := bB B1 hb; clear hb; obtain ⟨_, _, _, _, _, _⟩ := xB3 B1))
   refine pR 29 #[.bool t1, .string t2, .string t3] B1 Tryd.underlying29 ?_
   exact ⟨zE, zH⟩
  ·replace ⟨⟨t1, t2, t3⟩, A1, H⟩ := bS H
   (try dsimp only at H)
   simp only [Option.some.injEq, Prod.mk.injEq] at H
   obtain ⟨rfl, rfl, rfl⟩ := H
   go_enter Tryd.func18, Tryd.ntmps18
   go_wp2_with (first | (refine bxZ w 2 29 fun g1 w1 B1 G1 hg hb HB => ?_; clear hb hg) | (refine gB 29 Tryd.func28 (L0Whole.calls _ _ _ _ _ _ A1.out) fun w2 hb HB => ?_; replace B1 := bB B1 hb; clear hb; obtain ⟨_, _, _, _, _, _⟩ := xB3 B1))
   refine pR 29 #[.bool t1, .string t2, .string t3] B1 Tryd.underlying29 ?_
   exact ⟨zE, zH⟩
end Go.Proofs.YtggfilmdfpmbmaaDoor.QN
end
