/-
  Steps and laws behind the statement that the claim's last text proves: the words of the walks, the walks of the Go functions (printed by a program of this session's own, then shortened by one), and what they compute. Conditions: stated at each theorem.
-/
import Derived.Test.YtggfilmdfpmbmaaGreatDoorP9
import Derived.Test.YtggfilmdfpmbmaaGreatDoorP5
import Derived.Test.YtggfilmdfpmbmaaGreatDoorP0
import Derived.Test.YtggfilmdfpmbmaaGreatDoorP13
section
namespace Go.Proofs.YtggfilmdfpmbmaaGreatDoor.QN
open Go.RowKit Go.Proofs.YtggfilmdfpmbmaaGreatDoorW.PrintWords Go.Proofs.YtggfilmdfpmbmaaGreatDoorW.PrintLast Go.Proofs.YtggfilmdfpmbmaaGreatDoorW.PrintMore
attribute [local go_sem] max2_int min2_int max_two min_two max_three min_three max_four min_four
set_option linter.unusedVariables false
set_option linter.unusedSimpArgs false
attribute [local go_sem high] eqA23
set_option maxHeartbeats 8000000
set_option maxRecDepth 100000
def R1IsDay.f (a0 : Int) : Option (Bool) := if a0 ≥ 0 then (some (decide (a0 ≤ 1048576))) else (some false)
theorem R1IsDay.calls (a0 : Int) (r : Bool) (w : World) (H : R1IsDay.f a0 = some r) :
 Calls Tryz.prog 8 #[.int .i64 a0] w fun e w' => e = .returned (.bool r) ∧ Drawn0 w w' := by
 unfold R1IsDay.f at H
 replace H := iL H
 rcases H with ⟨c1b0, H⟩ | ⟨c1b0, H⟩
 obtain rfl := sI H
 rotate_left
 obtain rfl := sI H
 rotate_left
 all_goals
  go_enter Tryz.func8, Tryz.ntmps8
  go_wp2
  go_ret
  exact ⟨zq1, zq7⟩
mutual
def R1CheckSteps.l0 : Nat → List (S29) → Int → Option (Int)
 | 0, _, _ => none
 | k + 1, x0, x3 => if x3 < (x0.length : Int) then (if 0 ≤ x3 then ((R1IsDay.f ((rd_T29 x0 x3).f0)).bind fun t820 => (if t820 = true then (if x3 > 0 then (if 0 ≤ (wrap64 (x3 - 1)) then (if (wrap64 (x3 - 1)) < (x0.length : Int) then (R1CheckSteps.j1 k x0 x3 (decide (((rd_T29 x0 x3).f0) ≤ ((rd_T29 x0 (wrap64 (x3 - 1))).f0)))) else (none)) else (none)) else (R1CheckSteps.j1 k x0 x3 false)) else (some 1))) else (none)) else (some 0)
def R1CheckSteps.j1 : Nat → List (S29) → Int → Bool → Option (Int)
 | 0, _, _, _ => none
 | k + 1, x0, x3, x21 => if x21 = true then (some 15) else (if 0 ≤ x3 then (if x3 < (x0.length : Int) then ((R1Sign.f k ((rd_T29 x0 x3).f1.f0) ((rd_T29 x0 x3).f1.f1) ((rd_T29 x0 x3).f1.f2)).bind fun t824 => (if t824 < 0 then (some 7) else (R1CheckSteps.l0 k x0 (wrap64 (x3 + 1))))) else (none)) else (none))
end
def R1CheckSteps.f (k : Nat) (l0 : List (S29)) : Option (Int) := if (l0.length : Int) > 64 then (some 2) else (R1CheckSteps.l0 k l0 0)
theorem R1CheckSteps.calls (k : Nat) (A0 : Option Addr) (c0 : Nat) (l0 : List (S29)) (r : Int) (w : World) (hr0 : Kd.C k29 w A0 l0.length l0) (hc0 : l0.length ≤ c0) (H : R1CheckSteps.f k l0 = some r) :
 Calls Tryz.prog 41 #[.slice A0 l0.length c0] w fun e w' => e = .returned (.int .i64 r) ∧ Below w.heap.size w w' := by
 have hu1 := Tryz.underlying23
 have HR0 := Aside0.mk hr0
 have HC0 := Aside0.mk hc0
 clear hr0 hc0
 have HB := Aside0.mk (Below.refl w.heap.size w)
 unfold R1CheckSteps.f at H
 by_cases c1 : (l0.length : Int) > 64
 ·rw [if_pos c1] at H
  have c1b0 := decide_eq_true c1
  have c1b1 : decide (64 < l0.length) = true := decide_eq_true (by omega)
  clear c1
  obtain rfl := sI H
  go_enter Tryz.func41, Tryz.ntmps41
  go_wp2
  repeat (go_quiet (fail); try go_wp2)
  go_ret
  exact ⟨zE, zH⟩
 ·rw [if_neg c1] at H
  have c1b0 := decide_eq_false c1
  have c1b1 : decide (64 < l0.length) = false := decide_eq_false (by omega)
  clear c1
  have H' := Aside0.mk H
  clear H
  go_enter Tryz.func41, Tryz.ntmps41
  go_wp2
  repeat (go_quiet (fail); try go_wp2)
  go_loopg [3] k (fun kq v1 w' => ∃ (x1 : Int), v1 = .int .i64 x1 ∧ Aside0 (R1CheckSteps.l0 kq l0 x1 = some r) ∧ Aside0 (kq ≤ k) ∧ Aside0 (Below w.heap.size w w'))
  case atStart => exact ⟨(0), zq1, H', ⟨Nat.le_refl _⟩, ⟨zH⟩⟩
  case round =>
   clear H'
   obtain ⟨x1, rfl, HA, HK1, HB⟩ := hrel
   cases gk with
   | zero => exact absurd HA.out (by simp [R1CheckSteps.l0])
   | succ k1 =>
    have H := HA.out
    clear HA
    simp only [R1CheckSteps.l0] at H
    replace H := iL H
    rcases H with ⟨c2b0, H⟩ | ⟨c2b0, H⟩
    ·replace ⟨c3b0, H⟩ := iteD H
     replace ⟨t1, A1, H⟩ := bS H
     by_cases c4 : t1 = true
     ·subst c4
      rw [if_pos rfl] at H
      have HC7 := Aside0.mk H
      clear H
      have p1 : 0 ≤ (x1 : Int) := of_decide_eq_true zq0
      have q1 : x1 < (l0.length : Int) := of_decide_eq_true zq0
      obtain ⟨ad1, e1, hx1, hx2, hx3, hx4⟩ := at_T29 HR0.out x1 p1 q1
      cases e1
      (try replace hx1 := hM HB hx1)
      (try replace hx2 := hM HB hx2)
      (try replace hx3 := hM HB hx3)
      (try replace hx4 := hM HB hx4)
      replace p1 := eq_true p1
      replace q1 := eq_true q1
      go_upto_region 8 with (go_at_call 8; (with_reducible refine (R1IsDay.calls (H := A1.out) ..).mono ?_); rintro e w' ⟨rfl, ⟨nd, rfl⟩⟩; (try exact dN))
      repeat (go_quiet ((go_at_call 8; (with_reducible refine (R1IsDay.calls (H := A1.out) ..).mono ?_); rintro e w' ⟨rfl, ⟨nd, rfl⟩⟩; (try exact dN))); go_upto_region 8 with (go_at_call 8; (with_reducible refine (R1IsDay.calls (H := A1.out) ..).mono ?_); rintro e w' ⟨rfl, ⟨nd, rfl⟩⟩; (try exact dN)))
      (try simp only [Act.put, List.setIfInBounds_toArray, List.set_cons_zero, List.set_cons_succ])
      go_cut [21] (fun v2 wc => ∃ (kq : Nat) (x2 : Bool), v2 = .bool x2 ∧ Aside0 (R1CheckSteps.j1 kq l0 x1 x2 = some r) ∧ Aside0 (kq ≤ k1) ∧ Aside0 (Below w.heap.size w wc))
      case first =>
       have H := HC7.out
       clear HC7
       replace H := iL H
       rcases H with ⟨c5b0, H⟩ | ⟨c5b0, H⟩
       ·(first | rw [c5b0] | (simp only [i64_w, i32_w]; rw [c5b0]) | rw [c5b1] | skip)
        obtain ⟨j2, jh1, jh1w⟩ := jI (x1 - 1)
        first | rw [jh1] at H | simp only [jh1] at H
        replace ⟨c6b0, H⟩ := iteD H
        replace ⟨c7b0, H⟩ := iteD H
        have H' := Aside0.mk H
        clear H
        have p2 : 0 ≤ (x1 : Int) := of_decide_eq_true zq0
        have q2 : x1 < (l0.length : Int) := of_decide_eq_true zq0
        obtain ⟨ad2, e2, hx5, hx6, hx7, hx8⟩ := at_T29 HR0.out x1 p2 q2
        obtain rfl : ad1 = ad2 := (by injection e2)
        (try replace hx5 := hM HB hx5)
        (try replace hx6 := hM HB hx6)
        (try replace hx7 := hM HB hx7)
        (try replace hx8 := hM HB hx8)
        replace p2 := eq_true p2
        replace q2 := eq_true q2
        have p3 : 0 ≤ ((j2) : Int) := of_decide_eq_true zq0
        have q3 : (j2) < (l0.length : Int) := of_decide_eq_true zq0
        obtain ⟨ad3, e3, hx9, hx10, hx11, hx12⟩ := at_T29 HR0.out (j2) p3 q3
        obtain rfl : ad1 = ad3 := (by injection e3)
        (try replace hx9 := hM HB hx9)
        (try replace hx10 := hM HB hx10)
        (try replace hx11 := hM HB hx11)
        (try replace hx12 := hM HB hx12)
        replace p3 := eq_true p3
        replace q3 := eq_true q3
        go_wp2
        repeat (go_quiet (fail); try go_wp2)
        go_meet
        case rel => exact ⟨_, (decide (((rd_T29 l0 x1).f0) ≤ ((rd_T29 l0 (j2)).f0))), zq15, H', ⟨zq12⟩, ⟨zH⟩⟩
       ·(first | rw [c5b0] | (simp only [i64_w, i32_w]; rw [c5b0]) | rw [c5b1] | skip)
        have H' := Aside0.mk H
        clear H
        go_wp2
        repeat (go_quiet (fail); try go_wp2)
        go_meet
        case rel => exact ⟨_, (false), zq1, H', ⟨zq12⟩, ⟨zH⟩⟩
      case rest =>
       clear HC7
       obtain ⟨kq, x2, rfl, HA, HJ6, HB⟩ := hcut
       cases kq with
       | zero => exact absurd HA.out (by simp [R1CheckSteps.j1])
       | succ kj6 =>
        have H := HA.out
        clear HA
        simp only [R1CheckSteps.j1] at H
        by_cases c6 : x2 = true
        ·subst c6
         rw [if_pos rfl] at H
         obtain rfl := sI H
         go_wp2
         repeat (go_quiet (fail); try go_wp2)
         go_ret
         exact ⟨zE, zH⟩
        ·replace c6 := Bool.eq_false_iff.mpr c6
         subst c6
         rw [if_neg (show ¬ (false = true) by decide)] at H
         replace ⟨c7b0, H⟩ := iteD H
         replace ⟨c8b0, H⟩ := iteD H
         replace ⟨t2, A2, H⟩ := bS H
         replace H := iL H
         rcases H with ⟨c9b0, H⟩ | ⟨c9b0, H⟩
         obtain rfl := sI H
         have p2 : 0 ≤ (x1 : Int) := of_decide_eq_true zq0
         have q2 : x1 < (l0.length : Int) := of_decide_eq_true zq0
         obtain ⟨ad2, e2, hx5, hx6, hx7, hx8⟩ := at_T29 HR0.out x1 p2 q2
         obtain rfl : ad1 = ad2 := (by injection e2)
         (try replace hx5 := hM HB hx5)
         (try replace hx6 := hM HB hx6)
         (try replace hx7 := hM HB hx7)
         (try replace hx8 := hM HB hx8)
         replace p2 := eq_true p2
         replace q2 := eq_true q2
         rotate_left
         have H' := Aside0.mk H
         clear H
         have p2 : 0 ≤ (x1 : Int) := of_decide_eq_true zq0
         have q2 : x1 < (l0.length : Int) := of_decide_eq_true zq0
         obtain ⟨ad2, e2, hx5, hx6, hx7, hx8⟩ := at_T29 HR0.out x1 p2 q2
         obtain rfl : ad1 = ad2 := (by injection e2)
         (try replace hx5 := hM HB hx5)
         (try replace hx6 := hM HB hx6)
         (try replace hx7 := hM HB hx7)
         (try replace hx8 := hM HB hx8)
         replace p2 := eq_true p2
         replace q2 := eq_true q2
         rotate_left
         all_goals
          go_wp2_with (go_at_call 42; (with_reducible refine (R1Sign.calls (H := A2.out) ..).mono ?_); rintro e w1 ⟨rfl, hb⟩; replace HB := sB hb; (try clear hb))
          repeat (go_quiet ((go_at_call 42; (with_reducible refine (R1Sign.calls (H := A2.out) ..).mono ?_); rintro e w1 ⟨rfl, hb⟩; replace HB := sB hb; (try clear hb))); try go_wp2_with (go_at_call 42; (with_reducible refine (R1Sign.calls (H := A2.out) ..).mono ?_); rintro e w1 ⟨rfl, hb⟩; replace HB := sB hb; (try clear hb)))
         ·go_ret
          exact ⟨zE, zH⟩
         ·go_roundg kj6
          case measure => have := HK1.out; have := HJ6.out; omega
          case rel => exact ⟨(wrap64 (x1 + 1)), zq1, H', ⟨by have := HK1.out; have := HJ6.out; omega⟩, ⟨zH⟩⟩
     ·replace c4 := Bool.eq_false_iff.mpr c4
      subst c4
      rw [if_neg (show ¬ (false = true) by decide)] at H
      obtain rfl := sI H
      have p1 : 0 ≤ (x1 : Int) := of_decide_eq_true zq0
      have q1 : x1 < (l0.length : Int) := of_decide_eq_true zq0
      obtain ⟨ad1, e1, hx1, hx2, hx3, hx4⟩ := at_T29 HR0.out x1 p1 q1
      cases e1
      (try replace hx1 := hM HB hx1)
      (try replace hx2 := hM HB hx2)
      (try replace hx3 := hM HB hx3)
      (try replace hx4 := hM HB hx4)
      replace p1 := eq_true p1
      replace q1 := eq_true q1
      go_wp2_with (go_at_call 8; (with_reducible refine (R1IsDay.calls (H := A1.out) ..).mono ?_); rintro e w' ⟨rfl, ⟨nd, rfl⟩⟩; (try exact dN))
      repeat (go_quiet ((go_at_call 8; (with_reducible refine (R1IsDay.calls (H := A1.out) ..).mono ?_); rintro e w' ⟨rfl, ⟨nd, rfl⟩⟩; (try exact dN))); try go_wp2_with (go_at_call 8; (with_reducible refine (R1IsDay.calls (H := A1.out) ..).mono ?_); rintro e w' ⟨rfl, ⟨nd, rfl⟩⟩; (try exact dN)))
      go_ret
      exact ⟨zE, zH⟩
    ·obtain rfl := sI H
     go_wp2
     repeat (go_quiet (fail); try go_wp2)
     go_ret
     exact ⟨zE, zH⟩
def R1interval.j0 : Nat → Int → Int → Bool → Bool → ByteArray → ByteArray → Option (Int)
 | 0, _, _, _, _, _, _ => none
 | k + 1, x2, x3, x20, x885000, x885001, x885002 => if x20 = true then (some 1) else (if x3 < x2 then (some 15) else ((R1Sign.f k x885000 x885001 x885002).bind fun t888 => (if t888 < 0 then (some 7) else (some 0))))
def R1interval.f (k : Nat) (a0_0 : Bool) (a0_1 a0_2 : ByteArray) (l1 : List (S29)) (a2 a3 a4 a5 : Int) : Option (Int) := (R1CheckSteps.f k l1).bind fun t885 => (if t885 = 0 then ((R1IsDay.f a2).bind fun t886 => (if t886 = true then ((R1IsDay.f a3).bind fun t887 => (if t887 = true then (if a4 = 360 then (R1interval.j0 k a2 a3 (decide (a5 < 1)) a0_0 a0_1 a0_2) else (if a4 = 365 then (R1interval.j0 k a2 a3 (decide (a5 < 1)) a0_0 a0_1 a0_2) else (R1interval.j0 k a2 a3 true a0_0 a0_1 a0_2))) else (R1interval.j0 k a2 a3 true a0_0 a0_1 a0_2))) else (R1interval.j0 k a2 a3 true a0_0 a0_1 a0_2))) else (some t885))
theorem R1interval.calls (k : Nat) (a0_0 : Bool) (a0_1 a0_2 : ByteArray) (A1 : Option Addr) (c1 : Nat) (l1 : List (S29)) (a2 a3 a4 a5 r : Int) (w : World) (hr1 : Kd.C k29 w A1 l1.length l1) (hc1 : l1.length ≤ c1) (H : R1interval.f k a0_0 a0_1 a0_2 l1 a2 a3 a4 a5 = some r) :
 Calls Tryz.prog 21 #[.agg #[.bool a0_0, .string a0_1, .string a0_2], .slice A1 l1.length c1, .int .i64 a2, .int .i64 a3, .int .i64 a4, .int .i64 a5] w fun e w' => e = .returned (.int .i64 r) ∧ Below w.heap.size w w' := by
 have hu1 := Tryz.underlying23
 have HR1 := Aside0.mk hr1
 have HC1 := Aside0.mk hc1
 clear hr1 hc1
 have HB := Aside0.mk (Below.refl w.heap.size w)
 unfold R1interval.f at H
 replace ⟨t1, A2, H⟩ := bS H
 replace H := iQ H
 rcases H with ⟨c2b0, c2b1, H⟩ | ⟨c2b0, c2b1, H⟩
 ·have HC9 := Aside0.mk H
  clear H
  go_enter Tryz.func21, Tryz.ntmps21
  go_upto_region 4 with (first | (refine bxA w 6 #[.bool a0_0, .string a0_1, .string a0_2] 23 fun g1 w1 B1 G1 hg hb HB => ?_; clear hb hg) | (refine gB 15 Tryz.func41 (R1CheckSteps.calls k _ _ l1 t1 _ ?side1 ?side2 A2.out) fun w2 hb HB => ?_; (case side1 => exact sC (Kd.C_below HR1.out HB.out)); (case side2 => exact HC1.out); replace B1 := bB B1 hb; clear hb))
  (try simp only [Act.put, List.setIfInBounds_toArray, List.set_cons_zero, List.set_cons_succ])
  go_cut [20] (fun v1 wc => ∃ (kq : Nat) (x1 : Bool), v1 = .bool x1 ∧ Aside0 (R1interval.j0 kq a2 a3 x1 a0_0 a0_1 a0_2 = some r) ∧ Aside0 (kq ≤ k) ∧ Aside0 (wc.heap[g1]? = some (.cells #[.bool a0_0, .string a0_1, .string a0_2] 23 (0, 0))) ∧ Aside0 (Below w.heap.size w wc))
  case first =>
   have H := HC9.out
   clear HC9
   replace ⟨t2, A3, H⟩ := bS H
   by_cases c3 : t2 = true
   ·subst c3
    rw [if_pos rfl] at H
    replace ⟨t3, A4, H⟩ := bS H
    by_cases c4 : t3 = true
    ·subst c4
     rw [if_pos rfl] at H
     replace H := iQ H
     rcases H with ⟨c5b0, c5b1, H⟩ | ⟨c5b0, c5b1, H⟩
     (first | rw [c5b0] | (simp only [i64_w, i32_w]; rw [c5b0]) | rw [c5b1] | skip)
     have H' := Aside0.mk H
     clear H
     rotate_left
     (first | rw [c5b0] | (simp only [i64_w, i32_w]; rw [c5b0]) | rw [c5b1] | skip)
     replace H := iQ H
     rcases H with ⟨c6b0, c6b1, H⟩ | ⟨c6b0, c6b1, H⟩
     have H' := Aside0.mk H
     clear H
     rotate_left
     have H' := Aside0.mk H
     clear H
     rotate_left
     all_goals
      go_wp2_with (first | (refine gD 22 Tryz.func8 (R1IsDay.calls a2 true _ A3.out) fun nd => ?_) | (go_at_call 8; (with_reducible refine (R1IsDay.calls a3 true _ A4.out).mono ?_); rintro e w' ⟨rfl, ⟨nd, rfl⟩⟩))
      go_meet
     ·case rel => exact ⟨_, (decide (a5 < 1)), zq1, H', ⟨zq6⟩, ⟨bC B1⟩, ⟨zH⟩⟩
     ·case rel => exact ⟨_, (decide (a5 < 1)), zq1, H', ⟨zq6⟩, ⟨bC B1⟩, ⟨zH⟩⟩
     ·case rel => exact ⟨_, (true), zq1, H', ⟨zq6⟩, ⟨bC B1⟩, ⟨zH⟩⟩
    ·replace c4 := Bool.eq_false_iff.mpr c4
     subst c4
     rw [if_neg (show ¬ (false = true) by decide)] at H
     have H' := Aside0.mk H
     clear H
     go_wp2_with (first | (refine gD 22 Tryz.func8 (R1IsDay.calls a2 true _ A3.out) fun nd => ?_) | (go_at_call 8; (with_reducible refine (R1IsDay.calls (H := A4.out) ..).mono ?_); rintro e w' ⟨rfl, ⟨nd, rfl⟩⟩))
     go_meet
     case rel => exact ⟨_, (true), zq1, H', ⟨zq6⟩, ⟨bC B1⟩, ⟨zH⟩⟩
   ·replace c3 := Bool.eq_false_iff.mpr c3
    subst c3
    rw [if_neg (show ¬ (false = true) by decide)] at H
    have H' := Aside0.mk H
    clear H
    go_wp2_with (refine gD 22 Tryz.func8 (R1IsDay.calls _ _ _ A3.out) fun nd => ?_)
    go_meet
    case rel => exact ⟨_, (true), zq1, H', ⟨zq6⟩, ⟨bC B1⟩, ⟨zH⟩⟩
  case rest =>
   clear HC9
   obtain ⟨kq, x1, rfl, HA, HJ8, B1, HB⟩ := hcut
   cases kq with
   | zero => exact absurd HA.out (by simp [R1interval.j0])
   | succ kj8 =>
    have H := HA.out
    clear HA
    simp only [R1interval.j0] at H
    by_cases c4 : x1 = true
    ·subst c4
     rw [if_pos rfl] at H
     obtain rfl := sI H
     go_wp2
     go_ret
     exact ⟨zE, zH⟩
    ·replace c4 := Bool.eq_false_iff.mpr c4
     subst c4
     rw [if_neg (show ¬ (false = true) by decide)] at H
     replace H := iL H
     rcases H with ⟨c5b0, H⟩ | ⟨c5b0, H⟩
     ·obtain rfl := sI H
      go_wp2
      go_ret
      exact ⟨zE, zH⟩
     ·replace ⟨t3, A4, H⟩ := bS H
      replace H := iL H
      rcases H with ⟨c6b0, H⟩ | ⟨c6b0, H⟩
      obtain rfl := sI H
      obtain ⟨_, _, _, _, _, _⟩ := xB3 B1
      rotate_left
      obtain rfl := sI H
      obtain ⟨_, _, _, _, _, _⟩ := xB3 B1
      rotate_left
      all_goals
       go_wp2_with (refine gB 47 Tryz.func42 (R1Sign.calls _ _ _ _ _ _ A4.out) fun w3 hb HB => ?_; replace B1 := bB B1 hb; clear hb)
       go_ret
       exact ⟨zE, zH⟩
 ·obtain rfl := sI H
  go_enter Tryz.func21, Tryz.ntmps21
  go_wp2_with (first | (refine bxA w 6 #[.bool a0_0, .string a0_1, .string a0_2] 23 fun g1 w1 B1 G1 hg hb HB => ?_; clear hb hg) | (refine gB 15 Tryz.func41 (R1CheckSteps.calls k _ _ l1 t1 _ ?side1 ?side2 A2.out) fun w2 hb HB => ?_; (case side1 => exact sC (Kd.C_below HR1.out HB.out)); (case side2 => exact HC1.out); replace B1 := bB B1 hb; clear hb))
  go_ret
  exact ⟨zE, zH⟩
def R1rate.l0 : Nat → List (S29) → Int → Int → Bool → ByteArray → ByteArray → Option (Bool × ByteArray × ByteArray)
 | 0, _, _, _, _, _, _ => none
 | k + 1, x0, x1, x6, x891000, x891001, x891002 => if x6 < (x0.length : Int) then (if 0 ≤ x6 then (if ((rd_T29 x0 x6).f0) ≤ x1 then ((R1Fix.f k ((rd_T29 x0 x6).f1.f0) ((rd_T29 x0 x6).f1.f1) ((rd_T29 x0 x6).f1.f2)).bind fun bt893 => (R1rate.l0 k x0 x1 (wrap64 (x6 + 1)) bt893.1 bt893.2.1 bt893.2.2)) else (some (x891000, x891001, x891002))) else (none)) else (some (x891000, x891001, x891002))
def R1rate.f (k : Nat) (l0 : List (S29)) (a1 : Int) : Option (Bool × ByteArray × ByteArray) := R1rate.l0 k l0 a1 0 false (⟨#[]⟩ : ByteArray) (⟨#[]⟩ : ByteArray)
theorem R1rate.calls (k : Nat) (A0 : Option Addr) (c0 : Nat) (l0 : List (S29)) (a1 : Int) (r1 : Bool) (r2 r3 : ByteArray) (w : World) (hr0 : Kd.C k29 w A0 l0.length l0) (hc0 : l0.length ≤ c0) (H : R1rate.f k l0 a1 = some (r1, r2, r3)) :
 Calls Tryz.prog 51 #[.slice A0 l0.length c0, .int .i64 a1] w fun e w' => e = .returned (.agg #[.bool r1, .string r2, .string r3]) ∧ Below w.heap.size w w' := by
 have hu1 := Tryz.underlying23
 have HR0 := Aside0.mk hr0
 have HC0 := Aside0.mk hc0
 clear hr0 hc0
 have HB := Aside0.mk (Below.refl w.heap.size w)
 unfold R1rate.f at H
 have H' := Aside0.mk H
 clear H
 go_enter Tryz.func51, Tryz.ntmps51
 go_wp2_with (first | (refine bxZ w 4 23 fun g1 w1 B1 G1 hg hb HB => ?_; clear hb hg) | (refine bxZ w 5 23 fun g2 w2 B2 G2 hg hb HB => ?_; obtain ⟨N1, N2⟩ := nP B1 hg; replace B1 := bB B1 hb; clear hb hg; have m1 := N2; have n1 := N1; obtain ⟨_, _, _, _, _, _⟩ := xB3 B2))
 go_loopg [6] k (fun kq v1 w' => ∃ (x1 : Int) (x2 : Bool) (x3 : ByteArray) (x4 : ByteArray), v1 = .int .i64 x1 ∧ Aside0 (R1rate.l0 kq l0 a1 x1 x2 x3 x4 = some (r1, r2, r3)) ∧ Aside0 (kq ≤ k) ∧ Aside0 (w'.heap[g1]? = some (.cells #[.bool false, .string (⟨#[]⟩ : ByteArray), .string (⟨#[]⟩ : ByteArray)] 23 (0, 0))) ∧ Aside0 (w'.heap[g2]? = some (.cells #[.bool x2, .string x3, .string x4] 23 (0, 0))) ∧ Aside0 (Below w.heap.size w w'))
 case atStart => exact ⟨(0), (false), ((⟨#[]⟩ : ByteArray)), ((⟨#[]⟩ : ByteArray)), zq1, H', ⟨Nat.le_refl _⟩, ⟨bC B1⟩, ⟨bC B2⟩, ⟨zH⟩⟩
 case round =>
  clear H'
  obtain ⟨x1, x2, x3, x4, rfl, HA, HK1, B1, B2, HB⟩ := hrel
  cases gk with
  | zero => exact absurd HA.out (by simp [R1rate.l0])
  | succ k1 =>
   have H := HA.out
   clear HA
   simp only [R1rate.l0] at H
   replace H := iL H
   rcases H with ⟨c1b0, H⟩ | ⟨c1b0, H⟩
   ·replace ⟨c2b0, H⟩ := iteD H
    replace H := iL H
    rcases H with ⟨c3b0, H⟩ | ⟨c3b0, H⟩
    ·replace ⟨⟨t1, t2, t3⟩, A1, H⟩ := bS H
     (try dsimp only at H)
     have H' := Aside0.mk H
     clear H
     have p1 : 0 ≤ (x1 : Int) := of_decide_eq_true zq0
     have q1 : x1 < (l0.length : Int) := of_decide_eq_true zq0
     obtain ⟨ad1, e1, hx1, hx2, hx3, hx4⟩ := at_T29 HR0.out x1 p1 q1
     cases e1
     (try replace hx1 := hM HB hx1)
     (try replace hx2 := hM HB hx2)
     (try replace hx3 := hM HB hx3)
     (try replace hx4 := hM HB hx4)
     replace p1 := eq_true p1
     replace q1 := eq_true q1
     have p2 : 0 ≤ (x1 : Int) := of_decide_eq_true zq0
     have q2 : x1 < (l0.length : Int) := of_decide_eq_true zq0
     obtain ⟨ad2, e2, hx5, hx6, hx7, hx8⟩ := at_T29 HR0.out x1 p2 q2
     obtain rfl : ad1 = ad2 := (by injection e2)
     (try replace hx5 := hM HB hx5)
     (try replace hx6 := hM HB hx6)
     (try replace hx7 := hM HB hx7)
     (try replace hx8 := hM HB hx8)
     replace p2 := eq_true p2
     replace q2 := eq_true q2
     go_wp2_with (refine gB 28 Tryz.func22 (R1Fix.calls _ _ _ _ _ _ _ _ A1.out) fun w3 hb HB => ?_; replace B1 := bB B1 hb; replace B2 := bB B2 hb; clear hb; have m2 := N2; have n2 := N1; obtain ⟨_, _, _, _, _, _⟩ := xB3 B2)
     go_roundg k1
     case measure => have := HK1.out; omega
     case rel => exact ⟨(wrap64 (x1 + 1)), (t1), (t2), (t3), zq1, H', ⟨zq4⟩, ⟨bC B1⟩, ⟨bC B2⟩, ⟨zH⟩⟩
    ·simp only [Option.some.injEq, Prod.mk.injEq] at H
     obtain ⟨rfl, rfl, rfl⟩ := H
     have p1 : 0 ≤ (x1 : Int) := of_decide_eq_true zq0
     have q1 : x1 < (l0.length : Int) := of_decide_eq_true zq0
     obtain ⟨ad1, e1, hx1, hx2, hx3, hx4⟩ := at_T29 HR0.out x1 p1 q1
     cases e1
     (try replace hx1 := hM HB hx1)
     (try replace hx2 := hM HB hx2)
     (try replace hx3 := hM HB hx3)
     (try replace hx4 := hM HB hx4)
     replace p1 := eq_true p1
     replace q1 := eq_true q1
     obtain ⟨_, _, _, _, _, _⟩ := xB3 B2
     obtain ⟨_, _, _, _, _, _⟩ := xB3 B1
     go_wp2
     refine pR 23 #[.bool x2, .string x3, .string x4] B1 Tryz.underlying23 ?_
     exact ⟨zE, zH⟩
   ·simp only [Option.some.injEq, Prod.mk.injEq] at H
    obtain ⟨rfl, rfl, rfl⟩ := H
    obtain ⟨_, _, _, _, _, _⟩ := xB3 B2
    obtain ⟨_, _, _, _, _, _⟩ := xB3 B1
    go_wp2
    refine pR 23 #[.bool x2, .string x3, .string x4] B1 Tryz.underlying23 ?_
    exact ⟨zE, zH⟩
mutual
def R1accrued.l0 : Nat → List (S29) → Int → Int → Bool → ByteArray → ByteArray → Option (Bool × ByteArray × ByteArray)
 | 0, _, _, _, _, _, _ => none
 | k + 1, x0, x1, x2, x898000, x898001, x898002 => if x1 < x2 then (R1accrued.l1 k x0 x1 x2 x2 0 x898000 x898001 x898002) else (some (x898000, x898001, x898002))
def R1accrued.l1 : Nat → List (S29) → Int → Int → Int → Int → Bool → ByteArray → ByteArray → Option (Bool × ByteArray × ByteArray)
 | 0, _, _, _, _, _, _, _, _ => none
 | k + 1, x0, x1, x2, x8, x9, x898000, x898001, x898002 => if x9 < (x0.length : Int) then (if 0 ≤ x9 then (if ((rd_T29 x0 x9).f0) > x1 then (if ((rd_T29 x0 x9).f0) < x8 then (R1accrued.l1 k x0 x1 x2 ((rd_T29 x0 x9).f0) (wrap64 (x9 + 1)) x898000 x898001 x898002) else (R1accrued.l1 k x0 x1 x2 x8 (wrap64 (x9 + 1)) x898000 x898001 x898002)) else (R1accrued.l1 k x0 x1 x2 x8 (wrap64 (x9 + 1)) x898000 x898001 x898002)) else (none)) else ((R1rate.f k x0 x1).bind fun bt901 => ((R1Int.f k (wrap64 (x8 - x1))).bind fun bt904 => ((R1Times.f k bt901.1 bt901.2.1 bt901.2.2 bt904.1 bt904.2.1 bt904.2.2).bind fun bt907 => ((R1Plus.f k x898000 x898001 x898002 bt907.1 bt907.2.1 bt907.2.2).bind fun bt910 => (R1accrued.l0 k x0 x8 x2 bt910.1 bt910.2.1 bt910.2.2)))))
end
def R1accrued.f (k : Nat) (l0 : List (S29)) (a1 a2 : Int) : Option (Bool × ByteArray × ByteArray) := R1accrued.l0 k l0 a1 a2 false (⟨#[]⟩ : ByteArray) (⟨#[]⟩ : ByteArray)
def R1accrued.T9 : Bool × List (List Nat × List Nat) := (true, [([], []), ([], []), ([], []), ([1, 2], [1, 2]), ([], []), ([], []), ([4, 5], [4, 5]), ([6, 3], [6]), ([3, 7, 7], [3, 7]), ([0, 8, 8], [0, 8]), ([9, 9, 0, 1, 2, 3, 4, 5, 6, 7, 8, 9], [9])])
def R1accrued.B9 : List Nat := [0, 0, 0, 6, 0, 0, 48, 126, 254, 511, 1023]
theorem R1accrued.tab9 : rtab .any (opsOf Tryz.f26 9) = R1accrued.T9 := by kernel_rfl
theorem R1accrued.bits9 : waitsOk R1accrued.T9.2 R1accrued.B9 = true := by kernel_rfl
theorem R1accrued.calls (k : Nat) (A0 : Option Addr) (c0 : Nat) (l0 : List (S29)) (a1 a2 : Int) (r1 : Bool) (r2 r3 : ByteArray) (w : World) (hr0 : Kd.C k29 w A0 l0.length l0) (hc0 : l0.length ≤ c0) (H : R1accrued.f k l0 a1 a2 = some (r1, r2, r3)) :
 Calls Tryz.prog 26 #[.slice A0 l0.length c0, .int .i64 a1, .int .i64 a2] w fun e w' => e = .returned (.agg #[.bool r1, .string r2, .string r3]) ∧ Below w.heap.size w w' := by
 have hu1 := Tryz.underlying23
 have HR0 := Aside0.mk hr0
 have HC0 := Aside0.mk hc0
 clear hr0 hc0
 have HB := Aside0.mk (Below.refl w.heap.size w)
 unfold R1accrued.f at H
 have H' := Aside0.mk H
 clear H
 go_enter Tryz.func26, Tryz.ntmps26
 go_wp2_with (first | (refine bxZ w 6 23 fun g1 w2 B1 G1 hg hb HB => ?_; clear hb hg) | (refine bxZ w 7 23 fun g2 w3 B2 G2 hg hb HB => ?_; obtain ⟨N1, N2⟩ := nP B1 hg; replace B1 := bB B1 hb; clear hb hg; have m1 := N2; have n1 := N1; obtain ⟨_, _, _, _, _, _⟩ := xB3 B2))
 go_loopg [1] k (fun kq v1 w' => ∃ (x1 : Int) (x2 : Bool) (x3 : ByteArray) (x4 : ByteArray), v1 = .int .i64 x1 ∧ Aside0 (R1accrued.l0 kq l0 x1 a2 x2 x3 x4 = some (r1, r2, r3)) ∧ Aside0 (kq ≤ k) ∧ Aside0 (w'.heap[g1]? = some (.cells #[.bool false, .string (⟨#[]⟩ : ByteArray), .string (⟨#[]⟩ : ByteArray)] 23 (0, 0))) ∧ Aside0 (w'.heap[g2]? = some (.cells #[.bool x2, .string x3, .string x4] 23 (0, 0))) ∧ Aside0 (Below w.heap.size w w'))
 case atStart => exact ⟨(a1), (false), ((⟨#[]⟩ : ByteArray)), ((⟨#[]⟩ : ByteArray)), zq1, H', ⟨Nat.le_refl _⟩, ⟨bC B1⟩, ⟨bC B2⟩, ⟨zH⟩⟩
 case round =>
  clear H'
  obtain ⟨x1, x2, x3, x4, rfl, HA, HK1, B1, B2, HB⟩ := hrel
  cases gk with
  | zero => exact absurd HA.out (by simp [R1accrued.l0])
  | succ k1 =>
   have H := HA.out
   clear HA
   simp only [R1accrued.l0] at H
   replace H := iL H
   rcases H with ⟨c1b0, H⟩ | ⟨c1b0, H⟩
   ·have H' := Aside0.mk H
    clear H
    go_wp2
    go_loopg [8, 9] k1 (fun kq v2 v3 w' => ∃ (x5 : Int) (x6 : Int), v2 = .int .i64 x5 ∧ v3 = .int .i64 x6 ∧ Aside0 (R1accrued.l1 kq l0 x1 a2 x5 x6 x2 x3 x4 = some (r1, r2, r3)) ∧ Aside0 (kq ≤ k1) ∧ Aside0 (w'.heap[g1]? = some (.cells #[.bool false, .string (⟨#[]⟩ : ByteArray), .string (⟨#[]⟩ : ByteArray)] 23 (0, 0))) ∧ Aside0 (w'.heap[g2]? = some (.cells #[.bool x2, .string x3, .string x4] 23 (0, 0))) ∧ Aside0 (Below w.heap.size w w'))
    case atStart => exact ⟨(a2), (0), zq1, zq1, H', ⟨Nat.le_refl _⟩, ⟨bC B1⟩, ⟨bC B2⟩, ⟨zH⟩⟩
    case round =>
     clear H'
     obtain ⟨x5, x6, rfl, rfl, HA, HK2, B1, B2, HB⟩ := hrel
     cases gk with
     | zero => exact absurd HA.out (by simp [R1accrued.l1])
     | succ k2 =>
      have H := HA.out
      clear HA
      simp only [R1accrued.l1] at H
      replace H := iL H
      rcases H with ⟨c2b0, H⟩ | ⟨c2b0, H⟩
      ·replace ⟨c3b0, H⟩ := iteD H
       replace H := iL H
       rcases H with ⟨c4b0, H⟩ | ⟨c4b0, H⟩
       ·replace H := iL H
        rcases H with ⟨c5b0, H⟩ | ⟨c5b0, H⟩
        ·have H' := Aside0.mk H
         clear H
         have p1 : 0 ≤ (x6 : Int) := of_decide_eq_true zq0
         have q1 : x6 < (l0.length : Int) := of_decide_eq_true zq0
         obtain ⟨ad1, e1, hx1, hx2, hx3, hx4⟩ := at_T29 HR0.out x6 p1 q1
         cases e1
         (try replace hx1 := hM HB hx1)
         (try replace hx2 := hM HB hx2)
         (try replace hx3 := hM HB hx3)
         (try replace hx4 := hM HB hx4)
         replace p1 := eq_true p1
         replace q1 := eq_true q1
         have p2 : 0 ≤ (x6 : Int) := of_decide_eq_true zq0
         have q2 : x6 < (l0.length : Int) := of_decide_eq_true zq0
         obtain ⟨ad2, e2, hx5, hx6, hx7, hx8⟩ := at_T29 HR0.out x6 p2 q2
         obtain rfl : ad1 = ad2 := (by injection e2)
         (try replace hx5 := hM HB hx5)
         (try replace hx6 := hM HB hx6)
         (try replace hx7 := hM HB hx7)
         (try replace hx8 := hM HB hx8)
         replace p2 := eq_true p2
         replace q2 := eq_true q2
         have p3 : 0 ≤ (x6 : Int) := of_decide_eq_true zq0
         have q3 : x6 < (l0.length : Int) := of_decide_eq_true zq0
         obtain ⟨ad3, e3, hx9, hx10, hx11, hx12⟩ := at_T29 HR0.out x6 p3 q3
         obtain rfl : ad1 = ad3 := (by injection e3)
         (try replace hx9 := hM HB hx9)
         (try replace hx10 := hM HB hx10)
         (try replace hx11 := hM HB hx11)
         (try replace hx12 := hM HB hx12)
         replace p3 := eq_true p3
         replace q3 := eq_true q3
         go_wp2
         go_roundg k2
         case measure => have := HK1.out; have := HK2.out; omega
         case rel => exact ⟨((rd_T29 l0 x6).f0), (wrap64 (x6 + 1)), zq1, zq1, H', ⟨zq17⟩, ⟨bC B1⟩, ⟨bC B2⟩, ⟨zH⟩⟩
        ·have H' := Aside0.mk H
         clear H
         have p1 : 0 ≤ (x6 : Int) := of_decide_eq_true zq0
         have q1 : x6 < (l0.length : Int) := of_decide_eq_true zq0
         obtain ⟨ad1, e1, hx1, hx2, hx3, hx4⟩ := at_T29 HR0.out x6 p1 q1
         cases e1
         (try replace hx1 := hM HB hx1)
         (try replace hx2 := hM HB hx2)
         (try replace hx3 := hM HB hx3)
         (try replace hx4 := hM HB hx4)
         replace p1 := eq_true p1
         replace q1 := eq_true q1
         have p2 : 0 ≤ (x6 : Int) := of_decide_eq_true zq0
         have q2 : x6 < (l0.length : Int) := of_decide_eq_true zq0
         obtain ⟨ad2, e2, hx5, hx6, hx7, hx8⟩ := at_T29 HR0.out x6 p2 q2
         obtain rfl : ad1 = ad2 := (by injection e2)
         (try replace hx5 := hM HB hx5)
         (try replace hx6 := hM HB hx6)
         (try replace hx7 := hM HB hx7)
         (try replace hx8 := hM HB hx8)
         replace p2 := eq_true p2
         replace q2 := eq_true q2
         go_wp2
         go_roundg k2
         case measure => have := HK1.out; have := HK2.out; omega
         case rel => exact ⟨(x5), (wrap64 (x6 + 1)), zq1, zq1, H', ⟨zq17⟩, ⟨bC B1⟩, ⟨bC B2⟩, ⟨zH⟩⟩
       ·have H' := Aside0.mk H
        clear H
        have p1 : 0 ≤ (x6 : Int) := of_decide_eq_true zq0
        have q1 : x6 < (l0.length : Int) := of_decide_eq_true zq0
        obtain ⟨ad1, e1, hx1, hx2, hx3, hx4⟩ := at_T29 HR0.out x6 p1 q1
        cases e1
        (try replace hx1 := hM HB hx1)
        (try replace hx2 := hM HB hx2)
        (try replace hx3 := hM HB hx3)
        (try replace hx4 := hM HB hx4)
        replace p1 := eq_true p1
        replace q1 := eq_true q1
        go_wp2
        go_roundg k2
        case measure => have := HK1.out; have := HK2.out; omega
        case rel => exact ⟨(x5), (wrap64 (x6 + 1)), zq1, zq1, H', ⟨zq17⟩, ⟨bC B1⟩, ⟨bC B2⟩, ⟨zH⟩⟩
      ·replace ⟨⟨t1, t2, t3⟩, A1, H⟩ := bS H
       (try dsimp only at H)
       replace ⟨⟨t4, t5, t6⟩, A2, H⟩ := bS H
       (try dsimp only at H)
       replace ⟨⟨t7, t8, t9⟩, A3, H⟩ := bS H
       (try dsimp only at H)
       replace ⟨⟨t10, t11, t12⟩, A4, H⟩ := bS H
       (try dsimp only at H)
       have H' := Aside0.mk H
       clear H
       try go_wp2
       replace B1 := bD B1
       replace B2 := bD B2
       replace HB := hD HB
       refine startC1 11 [10] B2 (fun hHeld => ?_); refine with_tabW R1accrued.tab9 R1accrued.bits9 (fun HT_ HW_ => ?_)
       generalize wr.drew = w4 at B1 B2 HB hHeld ⊢
       refine pA 1 2 ?_
       refine pA 2 6 ?_
       refine pA 4 22 ?_
       refine pA 5 54 ?_
       refine pA 6 118 ?_
       refine tA 0 119 hHeld ?_
       refine oA 3 127 fun K hK => ?_
       refine goes_ Tryz.func51 (by kernel_rfl) rfl #[.slice A0 l0.length c0, .int .i64 x1] (by rfl) rfl rfl zq5 ?_
       with_reducible refine (R1rate.calls (H := A1.out) (hr0 := ?side1) (hc0 := ?side2) ..).mono ?_
       (case side1 => exact sC (Kd.C_below HR0.out HB.out))
       (case side2 => exact HC0.out)
       rintro e w5 ⟨rfl, hb⟩
       refine ⟨_, rfl, ?_⟩
       replace B1 := bB B1 hb
       replace B2 := bB B2 hb
       replace HB := sB hb
       (try clear hb)
       refine hK.out _ _ zK (fun hHeld => ?_)
       clear hK K
       refine normA (N := 45) ?_
       refine rcB 7 255 Tryz.func27 (R1Int.calls _ _ _ _ _ _ A2.out) hHeld br fun w6 hb hHeld => ?_
       refine rcB 8 511 Tryz.func25 (R1Times.calls _ _ _ _ _ _ _ _ _ _ _ A3.out) hHeld hb fun w7 hb hHeld => ?_
       refine rcB 9 1023 Tryz.func23 (R1Plus.calls _ _ _ _ _ _ _ _ _ _ _ A4.out) hHeld hb fun w8 hb hHeld => ?_
       replace B1 := bB B1 hb
       replace B2 := bB B2 hb
       replace HB := sB hb
       clear hb
       refine last_ (i := 10) (N := none) (lB 11 2047) rfl rfl (one_of HT_.out (by kernel_rfl)) (by decide) (fun K hK => ?_)
       have hs22 := cB B2 0 (.bool x2)
       have hfs22 := fB B2 0
       have hs23 := cB B2 1 (.string x3)
       have hfs23 := fB B2 1
       have hs24 := cB B2 2 (.string x4)
       have hfs24 := fB B2 2
       refine skip_ (w1 := ?_) (by rfl) rfl ?_ ?_
       rotate_left
       ·go_simp
        rfl
       refine hK.out _ _ ?_
       clear hK K
       refine done_ (done_of HT_.out (by kernel_rfl)) ?_
       try go_wp2
       go_roundg k2
       case measure => have := HK1.out; have := HK2.out; omega
       case rel => exact ⟨(x5), (t10), (t11), (t12), zq1, H', ⟨zq17⟩, ⟨bC B1⟩, ⟨bC B2⟩, ⟨zH⟩⟩
   ·simp only [Option.some.injEq, Prod.mk.injEq] at H
    obtain ⟨rfl, rfl, rfl⟩ := H
    obtain ⟨_, _, _, _, _, _⟩ := xB3 B2
    obtain ⟨_, _, _, _, _, _⟩ := xB3 B1
    go_wp2
    refine pR 23 #[.bool x2, .string x3, .string x4] B1 Tryz.underlying23 ?_
    exact ⟨zE, zH⟩
def L0Few.f (a0_0 : Bool) (a0_1 a0_2 : ByteArray) : Option (Bool) := if (a0_1.size : Int) ≤ 24 then (some (decide ((a0_2.size : Int) ≤ 24))) else (some false)
theorem L0Few.calls (a0_0 : Bool) (a0_1 a0_2 : ByteArray) (r : Bool) (w : World) (H : L0Few.f a0_0 a0_1 a0_2 = some r) :
 Calls Tryz.prog 6 #[.agg #[.bool a0_0, .string a0_1, .string a0_2]] w fun e w' => e = .returned (.bool r) ∧ Below w.heap.size w w' := by
 have hu1 := Tryz.underlying23
 have HB := Aside0.mk (Below.refl w.heap.size w)
 unfold L0Few.f at H
 by_cases c1 : (a0_1.size : Int) ≤ 24
 rw [if_pos c1] at H
 have c1b0 := decide_eq_true c1
 have c1b1 : decide (a0_1.size ≤ 24) = true := decide_eq_true (by omega)
 clear c1
 obtain rfl := sI H
 rotate_left
 rw [if_neg c1] at H
 have c1b0 := decide_eq_false c1
 have c1b1 : decide (a0_1.size ≤ 24) = false := decide_eq_false (by omega)
 clear c1
 obtain rfl := sI H
 rotate_left
 all_goals
  go_enter Tryz.func6, Tryz.ntmps6
  go_wp2_with ((with_reducible refine gate_dst (N := 1) rfl ?_); (try (refine gate_guard (by rfl) ?_; dsimp only)); refine box_event ?hg (N := 1) ?hd (cs := #[.bool a0_0, .string a0_1, .string a0_2]) (t := 23) ?hr ?_; (case hd => rfl); (case hg => rfl); (case hr => first | (go_simp; done) | (go_simp; rfl)); intro g1 hg w1 hbox hb; have B1 := Aside0.mk hbox; have G1 := wE w hg; replace HB := sB hb; clear hb hbox hg; obtain ⟨_, _, _, _, _, _⟩ := xB3 B1)
  go_ret
  exact ⟨zE, zH⟩
def L0Ratio.f (k : Nat) (a0 a1 : Int) : Option (Bool × ByteArray × ByteArray) := (R1Fraction.f k a0 a1).bind fun bt827 => (some (bt827.1, bt827.2.1, bt827.2.2.1))
theorem L0Ratio.calls (k : Nat) (a0 a1 : Int) (r1 : Bool) (r2 r3 : ByteArray) (w : World) (H : L0Ratio.f k a0 a1 = some (r1, r2, r3)) :
 Calls Tryz.prog 13 #[.int .i64 a0, .int .i64 a1] w fun e w' => e = .returned (.agg #[.bool r1, .string r2, .string r3]) ∧ Below w.heap.size w w' := by
 have hu1 := Tryz.underlying23
 have HB := Aside0.mk (Below.refl w.heap.size w)
 unfold L0Ratio.f at H
 replace ⟨⟨t1, t2, t3, t4⟩, A1, H⟩ := bS H
 (try dsimp only at H)
 simp only [Option.some.injEq, Prod.mk.injEq] at H
 obtain ⟨rfl, rfl, rfl⟩ := H
 go_enter Tryz.func13, Tryz.ntmps13
 go_wp2_with (first | (refine bxZ w 4 23 fun g1 w1 B1 G1 hg hb HB => ?_; clear hb hg) | (refine gB 10 Tryz.func29 (R1Fraction.calls _ _ _ _ _ _ _ _ A1.out) fun w2 hb HB => ?_; replace B1 := bB B1 hb; clear hb) | (refine bxZ w 5 23 fun g2 w3 B2 G2 hg hb HB => ?_; obtain ⟨N1, N2⟩ := nP B1 hg; replace B1 := bB B1 hb; clear hb hg; have m1 := N2; have n1 := N1; obtain ⟨_, _, _, _, _, _⟩ := xB3 B2; obtain ⟨_, _, _, _, _, _⟩ := xB3 B1))
 refine pR 23 #[.bool t1, .string t2, .string t3] B1 Tryz.underlying23 ?_
 exact ⟨zE, zH⟩
def L0Steps.l0 : Nat → List (S52) → List (S29) → Int → Int → Option ((List (S29)))
 | 0, _, _, _, _ => none
 | k + 1, x0, x3, x4, x5 => if x5 < (x0.length : Int) then (if x5 < 5 then (if 0 ≤ x5 then ((L0Ratio.f k (wrap64 (Int.tmod ((rd_T52 x0 x5).f1) 12)) 100).bind fun bt834 => (if x3.length < 2932031007402 then ((some (x3 ++ [(⟨wrap64 (x4 + (wrap64 (Int.tmod ((rd_T52 x0 x5).f0) 60))), (⟨bt834.1, bt834.2.1, bt834.2.2⟩ : S23)⟩ : S29)] : List (S29))).bind fun y837 => (if x5 < (y837.length : Int) then (L0Steps.l0 k x0 y837 (wrap64 (((rd_T29 y837 x5).f0) + 1)) (wrap64 (x5 + 1))) else (none))) else (none))) else (none)) else (some x3)) else (some x3)
def L0Steps.f (k : Nat) (l0 : List (S52)) : Option ((List (S29))) := L0Steps.l0 k l0 ([] : List (S29)) 0 0
def L0Steps.T6 : Bool × List (List Nat × List Nat) := (true, [([], []), ([], []), ([], []), ([], []), ([2, 3], [2, 3]), ([4], [4]), ([5], [5]), ([6], [6]), ([7], [7]), ([1, 8], [1, 8]), ([], []), ([], []), ([10, 11], [10, 11]), ([12], [12]), ([13], [13]), ([14], [14]), ([15], [15]), ([16], [16]), ([9, 17], [9, 17]), ([18], [18]), ([0, 19, 17], [0, 19]), ([20, 20, 0, 1, 2, 3, 4, 5, 6, 7, 8, 9, 10, 11, 12, 13, 14, 15, 16, 17, 18, 19, 20], [0, 20])])
def L0Steps.B6 : List Nat := [0, 0, 0, 0, 12, 28, 60, 124, 252, 510, 0, 0, 3072, 7168, 15360, 31744, 64512, 130048, 262142, 524286, 1048575, 2097151]
theorem L0Steps.tab6 : rtab .any (opsOf Tryz.f11 6) = L0Steps.T6 := by kernel_rfl
theorem L0Steps.bits6 : waitsOk L0Steps.T6.2 L0Steps.B6 = true := by kernel_rfl
theorem L0Steps.calls (k : Nat) (A0 : Option Addr) (c0 : Nat) (l0 : List (S52)) (r : List (S29)) (w : World) (hr0 : Kd.C k52 w A0 l0.length l0) (hc0 : l0.length ≤ c0) (H : L0Steps.f k l0 = some r) :
 Calls Tryz.prog 11 #[.slice A0 l0.length c0] w fun e w' => ∃ v0_ : Value, e = .returned (v0_) ∧ Kd.R k29 29 w' w.heap.size (fun _ => True) v0_ r ∧ Below w.heap.size w w' := by
 have hu1 := Tryz.underlying29
 have HR0 := Aside0.mk hr0
 have HC0 := Aside0.mk hc0
 clear hr0 hc0
 have HB := Aside0.mk (Below.refl w.heap.size w)
 unfold L0Steps.f at H
 have H' := Aside0.mk H
 clear H
 go_enter Tryz.func11, Tryz.ntmps11
 go_wp2
 go_loopg [3, 4, 5] k (fun kq v1 v2 v3 w' => ∃ (x1 : List (S29)) (x2 : Int) (x3 : Int), v2 = .int .i64 x2 ∧ v3 = .int .i64 x3 ∧ Aside0 (L0Steps.l0 kq l0 x1 x2 x3 = some r) ∧ Aside0 (kq ≤ k) ∧ Aside0 (Kd.R k29 29 w' w.heap.size (fun _ => True) v1 x1) ∧ Aside0 (Below w.heap.size w w'))
 case atStart => exact ⟨(([] : List (S29))), (0), (0), zq1, zq1, H', ⟨Nat.le_refl _⟩, ⟨zq34⟩, ⟨zH⟩⟩
 case round =>
  clear H'
  obtain ⟨x1, x2, x3, rfl, rfl, HA, HK1, HO_3, HB⟩ := hrel
  cases gk with
  | zero => exact absurd HA.out (by simp [L0Steps.l0])
  | succ k1 =>
   have H := HA.out
   clear HA
   simp only [L0Steps.l0] at H
   replace H := iL H
   rcases H with ⟨c1b0, H⟩ | ⟨c1b0, H⟩
   ·replace H := iL H
    rcases H with ⟨c2b0, H⟩ | ⟨c2b0, H⟩
    ·replace ⟨c3b0, H⟩ := iteD H
     replace ⟨⟨t1, t2, t3⟩, A1, H⟩ := bS H
     (try dsimp only at H)
     replace H := of_ite H
     obtain ⟨c4, H⟩ := H
     have LMc6 := Aside0.mk c4
     clear c4
     replace ⟨y1, Y1, H⟩ := bY H
     replace ⟨c5b0, H⟩ := iteD H
     have H' := Aside0.mk H
     clear H
     try go_wp2
     replace HO_3 := rD HO_3
     replace HB := hD HB
     have p1 : 0 ≤ (x3 : Int) := of_decide_eq_true zq0
     have q1 : x3 < (l0.length : Int) := of_decide_eq_true zq0
     obtain ⟨ad1, e1, hx1, hx2⟩ := at_T52 HR0.out x3 p1 q1
     have hw832_1 := hx2
     have hw832_0 := hx1
     cases e1
     (try replace hx1 := hM HB hx1)
     (try replace hx2 := hM HB hx2)
     replace p1 := eq_true p1
     replace q1 := eq_true q1
     have p2 : 0 ≤ (x3 : Int) := of_decide_eq_true zq0
     have q2 : x3 < (l0.length : Int) := of_decide_eq_true zq0
     obtain ⟨ad2, e2, hx3, hx4⟩ := at_T52 HR0.out x3 p2 q2
     have hw833_1 := hx4
     have hw833_0 := hx3
     obtain rfl : ad1 = ad2 := (by injection e2)
     (try replace hx3 := hM HB hx3)
     (try replace hx4 := hM HB hx4)
     replace p2 := eq_true p2
     replace q2 := eq_true q2
     refine startA 22 (S := fun w' => w'.cell? (ad1.add ((x3).toNat * 2)) = some (.int .u16 ((rd_T52 l0 x3).f0)) ∧ w'.cell? ⟨(ad1.add ((x3).toNat * 2)).block, (ad1.add ((x3).toNat * 2)).off + 1, none⟩ = some (.int .u16 ((rd_T52 l0 x3).f1)) ∧ w'.cell? (ad1.add ((x3).toNat * 2)) = some (.int .u16 ((rd_T52 l0 x3).f0)) ∧ w'.cell? ⟨(ad1.add ((x3).toNat * 2)).block, (ad1.add ((x3).toNat * 2)).off + 1, none⟩ = some (.int .u16 ((rd_T52 l0 x3).f1))) (ds := []) ⟨((HB.out.cell (World.block_lt_of_cell? w _ hw832_0)).trans hw832_0), ((HB.out.cell (World.block_lt_of_cell? w _ hw832_1)).trans hw832_1), ((HB.out.cell (World.block_lt_of_cell? w _ hw833_0)).trans hw833_0), ((HB.out.cell (World.block_lt_of_cell? w _ hw833_1)).trans hw833_1)⟩ (fun hHeld => ?_); refine with_tabW L0Steps.tab6 L0Steps.bits6 (fun HT_ HW_ => ?_)
     generalize wr.drew = w2 at HO_3 HB hx1 hx2 hx3 hx4 hHeld ⊢
     refine pA 0 1 ?_
     refine pA 1 3 ?_
     refine pA 2 7 ?_
     refine pA 3 15 ?_
     refine pA 4 31 ?_
     refine pA 5 63 ?_
     refine pA 10 1087 ?_
     refine pA 11 3135 ?_
     refine pA 12 7231 ?_
     refine pA 13 15423 ?_
     refine tA 6 15487 hHeld ?_
     refine pA 7 15615 ?_
     refine pA 8 15871 ?_
     refine pA 9 16383 ?_
     refine tA 14 32767 hHeld ?_
     refine pA 15 65535 ?_
     refine pA 16 131071 ?_
     refine oA 17 262143 fun K hK => ?_
     refine goes_ Tryz.func13 (by kernel_rfl) rfl #[.int .i64 (wrap64 (Int.tmod ((rd_T52 l0 x3).f1) 12)), .int .i64 100] (by rfl) rfl rfl zq5 ?_
     with_reducible refine (L0Ratio.calls (H := A1.out) ..).mono ?_
     rintro e w3 ⟨rfl, hb⟩
     refine ⟨_, rfl, ?_⟩
     replace HO_3 := rB HO_3 hb
     replace HB := sB hb
     (try clear hb)
     refine hK.out _ _ ⟨((HB.out.cell (World.block_lt_of_cell? w _ hw832_0)).trans hw832_0), ((HB.out.cell (World.block_lt_of_cell? w _ hw832_1)).trans hw832_1), ((HB.out.cell (World.block_lt_of_cell? w _ hw833_0)).trans hw833_0), ((HB.out.cell (World.block_lt_of_cell? w _ hw833_1)).trans hw833_1)⟩ (fun hHeld => ?_)
     clear hK K
     refine normA (N := 33) ?_
     refine pA 18 524287 ?_
     refine oA 19 1048575 fun K hK => ?_
     refine value_ (w1 := ?_) (v := ?_) (by rfl) rfl ?_ ?_
     rotate_left 2
     ·go_simp
      constructor
      ·rfl
      ·rfl
     refine hK.out _ _ ⟨(World.cell?_alloc_lt _ _ _ (World.block_lt_of_cell? _ _ (((HB.out.cell (World.block_lt_of_cell? w _ hw832_0)).trans hw832_0)))).trans (((HB.out.cell (World.block_lt_of_cell? w _ hw832_0)).trans hw832_0)), (World.cell?_alloc_lt _ _ _ (World.block_lt_of_cell? _ _ (((HB.out.cell (World.block_lt_of_cell? w _ hw832_1)).trans hw832_1)))).trans (((HB.out.cell (World.block_lt_of_cell? w _ hw832_1)).trans hw832_1)), (World.cell?_alloc_lt _ _ _ (World.block_lt_of_cell? _ _ (((HB.out.cell (World.block_lt_of_cell? w _ hw833_0)).trans hw833_0)))).trans (((HB.out.cell (World.block_lt_of_cell? w _ hw833_0)).trans hw833_0)), (World.cell?_alloc_lt _ _ _ (World.block_lt_of_cell? _ _ (((HB.out.cell (World.block_lt_of_cell? w _ hw833_1)).trans hw833_1)))).trans (((HB.out.cell (World.block_lt_of_cell? w _ hw833_1)).trans hw833_1))⟩ (fun hHeld => ?_)
     clear hK K
     refine normA (N := 35) ?_
     refine oA 20 2097151 fun K hK => ?_
     refine Kd.R_append_step k29 (w0 := w) w.heap.size (by rfl) (.tmp 16) (.tmp 35) 24 29 (.agg #[(.int .i64 0), (.bool false), (.string ⟨#[]⟩), (.string ⟨#[]⟩)]) 48 rfl Tryz.underlying24 info29 rfl (by decide) (by omega) u3 x1 (⟨wrap64 (x2 + (wrap64 (Int.tmod ((rd_T52 l0 x3).f0) 60))), (⟨t1, t2, t3⟩ : S23)⟩ : S29) [.int .i64 (wrap64 (x2 + (wrap64 (Int.tmod ((rd_T52 l0 x3).f0) 60)))), .bool t1, .string t2, .string t3] (fun _ => True) (fun _ => False) rfl rfl ?aP (fun _ hk => hk.elim) ?aF ?aO ?aB ?aS ?aL ?_
     (case aP => exact k29_mkM _ _ _ (⟨wrap64 (x2 + (wrap64 (Int.tmod ((rd_T52 l0 x3).f0) 60))), (⟨t1, t2, t3⟩ : S23)⟩ : S29))
     (case aB => exact zH)
     (case aF => exact (fun _ _ => trivial))
     (case aO => exact zq53)
     (case aS => exact (below_size zH))
     (case aL => have := LMc6.out; omega)
     intro v4 w4 ho hb hg hat
     rw [← Y1.out] at ho
     have n0_ := Aside0.mk (hb)
     have n1_ := Aside0.mk (ho)
     clear HB HO_3
     have HB := n0_
     have O1 := n1_
     clear n0_ n1_ ho hb hg hat
     refine hK.out _ _ ⟨((HB.out.cell (World.block_lt_of_cell? w _ hw832_0)).trans hw832_0), ((HB.out.cell (World.block_lt_of_cell? w _ hw832_1)).trans hw832_1), ((HB.out.cell (World.block_lt_of_cell? w _ hw833_0)).trans hw833_0), ((HB.out.cell (World.block_lt_of_cell? w _ hw833_1)).trans hw833_1)⟩ (fun hHeld => ?_)
     clear hK K
     refine normA (N := 36) ?_
     refine pA 21 4194303 ?_
     refine done_ (done_of HT_.out (by kernel_rfl)) ?_
     obtain ⟨P1, d1, u1⟩ := Kd.R_slice O1.out
     subst u1
     have p3 : 0 ≤ (x3 : Int) := of_decide_eq_true zq0
     have q3 : x3 < (y1.length : Int) := of_decide_eq_true zq0
     obtain ⟨ad3, e3, hx5, hx6, hx7, hx8⟩ := at_T29 (Kd.R_reads' O1.out).2.2 x3 p3 q3
     cases e3
     replace p3 := eq_true p3
     replace q3 := eq_true q3
     try go_wp2
     go_roundg k1
     case measure => have := HK1.out; omega
     case rel => exact ⟨(y1), (wrap64 (((rd_T29 y1 x3).f0) + 1)), (wrap64 (x3 + 1)), zq1, zq1, H', ⟨zq4⟩, ⟨zR⟩, ⟨zH⟩⟩
    ·obtain rfl := sI H
     go_wp2
     go_ret
     exact ⟨_, zE, zR, zH⟩
   ·obtain rfl := sI H
    go_wp2
    go_ret
    exact ⟨_, zE, zR, zH⟩
def L0Whole.f (k : Nat) (a0 : Int) : Option (Bool × ByteArray × ByteArray) := (R1Int.f k a0).bind fun bt842 => (some (bt842.1, bt842.2.1, bt842.2.2))
theorem L0Whole.calls (k : Nat) (a0 : Int) (r1 : Bool) (r2 r3 : ByteArray) (w : World) (H : L0Whole.f k a0 = some (r1, r2, r3)) :
 Calls Tryz.prog 14 #[.int .i64 a0] w fun e w' => e = .returned (.agg #[.bool r1, .string r2, .string r3]) ∧ Below w.heap.size w w' := by
 have hu1 := Tryz.underlying23
 have HB := Aside0.mk (Below.refl w.heap.size w)
 unfold L0Whole.f at H
 replace ⟨⟨t1, t2, t3⟩, A1, H⟩ := bS H
 (try dsimp only at H)
 simp only [Option.some.injEq, Prod.mk.injEq] at H
 obtain ⟨rfl, rfl, rfl⟩ := H
 go_enter Tryz.func14, Tryz.ntmps14
 go_wp2_with (first | (refine bxZ w 2 23 fun g1 w1 B1 G1 hg hb HB => ?_; clear hb hg) | (refine gB 4 Tryz.func27 (R1Int.calls _ _ _ _ _ _ A1.out) fun w2 hb HB => ?_; replace B1 := bB B1 hb; clear hb; obtain ⟨_, _, _, _, _, _⟩ := xB3 B1))
 refine pR 23 #[.bool t1, .string t2, .string t3] B1 Tryz.underlying23 ?_
 exact ⟨zE, zH⟩
def L0Amount.f (k : Nat) (a0 : Int) : Option (Bool × ByteArray × ByteArray) := if (Int.tmod a0 5) = 0 then ((L0Ratio.f k (wrap64 (Int.tmod (IntKind.u16.wrap (Int.tdiv a0 5)) 23)) (wrap64 (1 + (wrap64 (Int.tmod (IntKind.u16.wrap (Int.tdiv a0 115)) 6))))).bind fun bt846 => (some (bt846.1, bt846.2.1, bt846.2.2))) else (if (Int.tmod a0 5) = 1 then ((L0Whole.f k (wrap64 (10 * (wrap64 (Int.tmod (IntKind.u16.wrap (Int.tdiv a0 5)) 4))))).bind fun bt849 => (some (bt849.1, bt849.2.1, bt849.2.2))) else ((L0Whole.f k (wrap64 (Int.tmod (IntKind.u16.wrap (Int.tdiv a0 5)) 13))).bind fun bt852 => (some (bt852.1, bt852.2.1, bt852.2.2))))
theorem L0Amount.calls (k : Nat) (a0 : Int) (r1 : Bool) (r2 r3 : ByteArray) (w : World) (H : L0Amount.f k a0 = some (r1, r2, r3)) :
 Calls Tryz.prog 12 #[.int .u16 a0] w fun e w' => e = .returned (.agg #[.bool r1, .string r2, .string r3]) ∧ Below w.heap.size w w' := by
 have hu1 := Tryz.underlying23
 have HB := Aside0.mk (Below.refl w.heap.size w)
 unfold L0Amount.f at H
 replace H := iQ H
 rcases H with ⟨c1b0, c1b1, H⟩ | ⟨c1b0, c1b1, H⟩
 ·replace ⟨⟨t1, t2, t3⟩, A1, H⟩ := bS H
  (try dsimp only at H)
  simp only [Option.some.injEq, Prod.mk.injEq] at H
  obtain ⟨rfl, rfl, rfl⟩ := H
  go_enter Tryz.func12, Tryz.ntmps12
  go_wp2_with (first | (refine bxZ w 2 23 fun g1 w1 B1 G1 hg hb HB => ?_; clear hb hg) | (refine gB 16 Tryz.func13 (L0Ratio.calls _ _ _ _ _ _ _ A1.out) fun w2 hb HB => ?_; replace B1 := bB B1 hb; clear hb; obtain ⟨_, _, _, _, _, _⟩ := xB3 B1))
  refine pR 23 #[.bool t1, .string t2, .string t3] B1 Tryz.underlying23 ?_
  exact ⟨zE, zH⟩
 ·replace H := iQ H
  rcases H with ⟨c2b0, c2b1, H⟩ | ⟨c2b0, c2b1, H⟩
  ·replace ⟨⟨t1, t2, t3⟩, A1, H⟩ := bS H
   (try dsimp only at H)
   simp only [Option.some.injEq, Prod.mk.injEq] at H
   obtain ⟨rfl, rfl, rfl⟩ := H
   go_enter Tryz.func12, Tryz.ntmps12
   go_wp2_with (first | (refine bxZ w 2 23 fun g1 w1 B1 G1 hg hb HB => ?_; clear hb hg) | (refine gB 24 Tryz.func14 (L0Whole.calls _ _ _ _ _ _ A1.out) fun w2 hb HB => ?_; replace B1 := bB B1 hb; clear hb; obtain ⟨_, _, _, _, _, _⟩ := xB3 B1))
   refine pR 23 #[.bool t1, .string t2, .string t3] B1 Tryz.underlying23 ?_
   exact ⟨zE, zH⟩
  ·replace ⟨⟨t1, t2, t3⟩, A1, H⟩ := bS H
   (try dsimp only at H)
   simp only [Option.some.injEq, Prod.mk.injEq] at H
   obtain ⟨rfl, rfl, rfl⟩ := H
   go_enter Tryz.func12, Tryz.ntmps12
   go_wp2_with (first | (refine bxZ w 2 23 fun g1 w1 B1 G1 hg hb HB => ?_; clear hb hg) | (refine gB 29 Tryz.func14 (L0Whole.calls _ _ _ _ _ _ A1.out) fun w2 hb HB => ?_; replace B1 := bB B1 hb; clear hb; obtain ⟨_, _, _, _, _, _⟩ := xB3 B1))
   refine pR 23 #[.bool t1, .string t2, .string t3] B1 Tryz.underlying23 ?_
   exact ⟨zE, zH⟩
def L6few.l0 : Nat → List (S29) → Int → Int → Option (Bool)
 | 0, _, _, _ => none
 | k + 1, x8, x9, x10 => if x10 < x9 then (if 0 ≤ x10 then (if x10 < (x8.length : Int) then ((L0Few.f ((rd_T29 x8 x10).f1.f0) ((rd_T29 x8 x10).f1.f1) ((rd_T29 x8 x10).f1.f2)).bind fun t857 => (if t857 = true then (L6few.l0 k x8 x9 (wrap64 (x10 + 1))) else (some false))) else (none)) else (none)) else (some true)
def L6few.f (k : Nat) (l0 : List (S29)) : Option (Bool) := if (l0.length : Int) > 10 then (some false) else (L6few.l0 k l0 (l0.length : Int) 0)
theorem L6few.calls (k : Nat) (A0 : Option Addr) (c0 : Nat) (l0 : List (S29)) (r : Bool) (w : World) (hr0 : Kd.C k29 w A0 l0.length l0) (hc0 : l0.length ≤ c0) (H : L6few.f k l0 = some r) :
 Calls Tryz.prog 5 #[.slice A0 l0.length c0] w fun e w' => e = .returned (.bool r) ∧ Below w.heap.size w w' := by
 have hu1 := Tryz.underlying29
 have hu2 := Tryz.underlying23
 have HR0 := Aside0.mk hr0
 have HC0 := Aside0.mk hc0
 clear hr0 hc0
 have HB := Aside0.mk (Below.refl w.heap.size w)
 unfold L6few.f at H
 by_cases c1 : (l0.length : Int) > 10
 ·rw [if_pos c1] at H
  have c1b0 := decide_eq_true c1
  have c1b1 : decide (10 < l0.length) = true := decide_eq_true (by omega)
  clear c1
  obtain rfl := sI H
  go_enter Tryz.func5, Tryz.ntmps5
  go_wp2
  go_ret
  exact ⟨zE, zH⟩
 ·rw [if_neg c1] at H
  have c1b0 := decide_eq_false c1
  have c1b1 : decide (10 < l0.length) = false := decide_eq_false (by omega)
  clear c1
  have H' := Aside0.mk H
  clear H
  go_enter Tryz.func5, Tryz.ntmps5
  go_wp2
  go_loopg [10] k (fun kq v1 w' => ∃ (x1 : Int), v1 = .int .i64 x1 ∧ Aside0 (L6few.l0 kq l0 (l0.length : Int) x1 = some r) ∧ Aside0 (kq ≤ k) ∧ Aside0 (Below w.heap.size w w'))
  case atStart => exact ⟨(0), zq1, H', ⟨Nat.le_refl _⟩, ⟨zH⟩⟩
  case round =>
   clear H'
   obtain ⟨x1, rfl, HA, HK1, HB⟩ := hrel
   cases gk with
   | zero => exact absurd HA.out (by simp [L6few.l0])
   | succ k1 =>
    have H := HA.out
    clear HA
    simp only [L6few.l0] at H
    replace H := iL H
    rcases H with ⟨c2b0, H⟩ | ⟨c2b0, H⟩
    ·replace ⟨c3b0, H⟩ := iteD H
     replace ⟨c4b0, H⟩ := iteD H
     replace ⟨t1, A1, H⟩ := bS H
     by_cases c5 : t1 = true
     subst c5
     rw [if_pos rfl] at H
     have H' := Aside0.mk H
     clear H
     have p1 : 0 ≤ (x1 : Int) := of_decide_eq_true zq0
     have q1 : x1 < (l0.length : Int) := of_decide_eq_true zq0
     obtain ⟨ad1, e1, hx1, hx2, hx3, hx4⟩ := at_T29 HR0.out x1 p1 q1
     cases e1
     (try replace hx1 := hM HB hx1)
     (try replace hx2 := hM HB hx2)
     (try replace hx3 := hM HB hx3)
     (try replace hx4 := hM HB hx4)
     replace p1 := eq_true p1
     replace q1 := eq_true q1
     rotate_left
     replace c5 := Bool.eq_false_iff.mpr c5
     subst c5
     rw [if_neg (show ¬ (false = true) by decide)] at H
     obtain rfl := sI H
     have p1 : 0 ≤ (x1 : Int) := of_decide_eq_true zq0
     have q1 : x1 < (l0.length : Int) := of_decide_eq_true zq0
     obtain ⟨ad1, e1, hx1, hx2, hx3, hx4⟩ := at_T29 HR0.out x1 p1 q1
     cases e1
     (try replace hx1 := hM HB hx1)
     (try replace hx2 := hM HB hx2)
     (try replace hx3 := hM HB hx3)
     (try replace hx4 := hM HB hx4)
     replace p1 := eq_true p1
     replace q1 := eq_true q1
     rotate_left
     all_goals
      go_wp2_with (first | (refine bxA w 4 #[.int .i64 0, .bool false, .string (⟨#[]⟩ : ByteArray), .string (⟨#[]⟩ : ByteArray)] 29 fun g1 w1 B1 G1 hg hb HB => ?_; clear hb hg; obtain ⟨_, _, _, _, _, _, _, _⟩ := xB4 B1) | (refine gB 16 Tryz.func6 (L0Few.calls _ _ _ _ _ A1.out) fun w2 hb HB => ?_; replace B1 := bV B1 hb; clear hb))
     ·go_roundg k1
      case measure => have := HK1.out; omega
      case rel => exact ⟨(wrap64 (x1 + 1)), zq1, H', ⟨zq4⟩, ⟨zH⟩⟩
     ·go_ret
      exact ⟨zE, zH⟩
    ·obtain rfl := sI H
     go_wp2
     go_ret
     exact ⟨zE, zH⟩
end Go.Proofs.YtggfilmdfpmbmaaGreatDoor.QN
end
