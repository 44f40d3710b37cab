/-
  Steps and laws behind the statement that the claim's last text proves: the words of the walks, the walks of the Go functions (printed by a program of this session's own, then shortened by one), and what they compute. Conditions: stated at each theorem.
-/
import Derived.Test.YtggfilmdfpmbmaaDoorP9
import Derived.Test.YtggfilmdfpmbmaaDoorP5
import Derived.Test.YtggfilmdfpmbmaaDoorP0
import Derived.Test.YtggfilmdfpmbmaaDoorP13
section
namespace Go.Proofs.YtggfilmdfpmbmaaDoor.QN
open Go.RowKit Go.Proofs.YtggfilmdfpmbmaaDoorW.PrintWords Go.Proofs.YtggfilmdfpmbmaaDoorW.PrintLast Go.Proofs.YtggfilmdfpmbmaaDoorW.PrintMore
attribute [local go_sem] max2_int min2_int max_two min_two max_three min_three max_four min_four
set_option linter.unusedVariables false
set_option linter.unusedSimpArgs false
attribute [local go_sem high] eqA29
set_option maxHeartbeats 8000000
set_option maxRecDepth 100000
def R1IsDay.f (a0 : Int) : Option (Bool) := if a0 ≥ 0 then (some (decide (a0 ≤ 1048576))) else (some false)
theorem R1IsDay.calls (a0 : Int) (r : Bool) (w : World) (H : R1IsDay.f a0 = some r) :
 Calls Tryd.prog 31 #[.int .i64 a0] w fun e w' => e = .returned (.bool r) ∧ Drawn0 w w' := by
 unfold R1IsDay.f at H
 rcases iL H with ⟨c1b0, H⟩ | ⟨c1b0, H⟩
 obtain rfl := sI H
 rotate_left
 obtain rfl := sI H
 rotate_left
 all_goals
  go_enter Tryd.func31, Tryd.ntmps31
  go_wp2
  go_ret
  exact ⟨by first | rfl | (simp; done) | (simp [*]; done), by repeat (first | exact Drawn0.refl _ | apply Drawn0.step)⟩
mutual
def R1CheckSteps.l0 : Nat → List (S54) → Int → Option (Int)
 | 0, _, _ => none
 | k + 1, x0, x3 => if x3 < (x0.length : Int) then (if 0 ≤ x3 then ((R1IsDay.f ((rd_T54 x0 x3).f0)).bind fun t848 => (if t848 = true then (if x3 > 0 then (if 0 ≤ (wrap64 (x3 - 1)) then (if (wrap64 (x3 - 1)) < (x0.length : Int) then (R1CheckSteps.j1 k x0 x3 (decide (((rd_T54 x0 x3).f0) ≤ ((rd_T54 x0 (wrap64 (x3 - 1))).f0)))) else (none)) else (none)) else (R1CheckSteps.j1 k x0 x3 false)) else (some 1))) else (none)) else (some 0)
def R1CheckSteps.j1 : Nat → List (S54) → Int → Bool → Option (Int)
 | 0, _, _, _ => none
 | k + 1, x0, x3, x21 => if x21 = true then (some 15) else (if 0 ≤ x3 then (if x3 < (x0.length : Int) then ((R1Sign.f k ((rd_T54 x0 x3).f1.f0) ((rd_T54 x0 x3).f1.f1) ((rd_T54 x0 x3).f1.f2)).bind fun t852 => (if t852 < 0 then (some 7) else (R1CheckSteps.l0 k x0 (wrap64 (x3 + 1))))) else (none)) else (none))
end
def R1CheckSteps.f (k : Nat) (l0 : List (S54)) : Option (Int) := if (l0.length : Int) > 64 then (some 2) else (R1CheckSteps.l0 k l0 0)
theorem R1CheckSteps.calls (k : Nat) (A0 : Option Addr) (c0 : Nat) (l0 : List (S54)) (r : Int) (w : World) (hr0 : Kd.C k54 w A0 l0.length l0) (hc0 : l0.length ≤ c0) (H : R1CheckSteps.f k l0 = some r) :
 Calls Tryd.prog 13 #[.slice A0 l0.length c0] w fun e w' => e = .returned (.int .i64 r) ∧ Below w.heap.size w w' := by
 have hu1 := Tryd.underlying29
 have HR0 := Aside0.mk hr0
 have HC0 := Aside0.mk hc0
 clear hr0 hc0
 have HB := Aside0.mk (Below.refl w.heap.size w)
 unfold R1CheckSteps.f at H
 by_cases c1 : (l0.length : Int) > 64
 ·rw [if_pos c1] at H
  have c1b0 := decide_eq_true c1
  have c1b1 : decide (64 < l0.length) = true := decide_eq_true (by omega)
  clear c1
  obtain rfl := sI H
  go_enter Tryd.func13, Tryd.ntmps13
  go_wp2
  repeat (go_quiet (fail); try go_wp2)
  go_ret
  exact ⟨zE, zH⟩
 ·rw [if_neg c1] at H
  have c1b0 := decide_eq_false c1
  have c1b1 : decide (64 < l0.length) = false := decide_eq_false (by omega)
  clear c1
  have H' := Aside0.mk H
  clear H
  go_enter Tryd.func13, Tryd.ntmps13
  go_wp2
  repeat (go_quiet (fail); try go_wp2)
  go_loopg [3] k (fun kq v1 w' => ∃ (x1 : Int), v1 = .int .i64 x1 ∧ Aside0 (R1CheckSteps.l0 kq l0 x1 = some r) ∧ Aside0 (kq ≤ k) ∧ Aside0 (Below w.heap.size w w'))
  case atStart => exact ⟨(0), zq1, H', ⟨Nat.le_refl _⟩, ⟨zH⟩⟩
  case round =>
   clear H'
   obtain ⟨x1, rfl, HA, HK1, HB⟩ := hrel
   cases gk with
   | zero => exact absurd HA.out (by simp [R1CheckSteps.l0])
   | succ k1 =>
    have H := HA.out
    clear HA
    simp only [R1CheckSteps.l0] at H
    rcases iL H with ⟨c2b0, H⟩ | ⟨c2b0, H⟩
    ·obtain ⟨c3b0, H⟩ := iteD H
     obtain ⟨t1, A1, H⟩ := bS H
     by_cases c4 : t1 = true
     ·subst c4
      rw [if_pos rfl] at H
      have HC7 := Aside0.mk H
      clear H
      have p1 : 0 ≤ (x1 : Int) := of_decide_eq_true zq0
      have q1 : x1 < (l0.length : Int) := of_decide_eq_true zq0
      obtain ⟨ad1, e1, hx1, hx2, hx3, hx4⟩ := at_T54 HR0.out x1 p1 q1
      cases e1
      (try replace hx1 := (HB.out.cell (World.block_lt_of_cell? w _ hx1)).trans hx1)
      (try replace hx2 := (HB.out.cell (World.block_lt_of_cell? w _ hx2)).trans hx2)
      (try replace hx3 := (HB.out.cell (World.block_lt_of_cell? w _ hx3)).trans hx3)
      (try replace hx4 := (HB.out.cell (World.block_lt_of_cell? w _ hx4)).trans hx4)
      replace p1 := eq_true p1
      replace q1 := eq_true q1
      go_upto_region 8 with (first | (go_at_call 31; (with_reducible refine (R1IsDay.calls (H := A1.out) ..).mono ?_); rintro e w' ⟨rfl, ⟨nd, rfl⟩⟩; (try first | exact ⟨rfl, _, World.drewN_drewN _ _ _⟩ | exact ⟨rfl, _, Eq.trans (World.drewN_drewN _ _ _) (congrArg (World.drewN _) (Nat.add_assoc _ _ _))⟩)))
      repeat (go_quiet (first | (go_at_call 31; (with_reducible refine (R1IsDay.calls (H := A1.out) ..).mono ?_); rintro e w' ⟨rfl, ⟨nd, rfl⟩⟩; (try first | exact ⟨rfl, _, World.drewN_drewN _ _ _⟩ | exact ⟨rfl, _, Eq.trans (World.drewN_drewN _ _ _) (congrArg (World.drewN _) (Nat.add_assoc _ _ _))⟩))); go_upto_region 8 with (first | (go_at_call 31; (with_reducible refine (R1IsDay.calls (H := A1.out) ..).mono ?_); rintro e w' ⟨rfl, ⟨nd, rfl⟩⟩; (try first | exact ⟨rfl, _, World.drewN_drewN _ _ _⟩ | exact ⟨rfl, _, Eq.trans (World.drewN_drewN _ _ _) (congrArg (World.drewN _) (Nat.add_assoc _ _ _))⟩))))
      (try simp only [Act.put, List.setIfInBounds_toArray, List.set_cons_zero, List.set_cons_succ])
      go_cut [21] (fun v2 wc => ∃ (kq : Nat) (x2 : Bool), v2 = .bool x2 ∧ Aside0 (R1CheckSteps.j1 kq l0 x1 x2 = some r) ∧ Aside0 (kq ≤ k1) ∧ Aside0 (Below w.heap.size w wc))
      case first =>
       have H := HC7.out
       clear HC7
       rcases iL H with ⟨c5b0, H⟩ | ⟨c5b0, H⟩
       ·(first | rw [c5b0] | (simp only [i64_w, i32_w]; rw [c5b0]) | rw [c5b1] | skip)
        obtain ⟨j2, jh1, jh1w⟩ := jI (x1 - 1)
        first | rw [jh1] at H | simp only [jh1] at H
        obtain ⟨c6b0, H⟩ := iteD H
        obtain ⟨c7b0, H⟩ := iteD H
        have H' := Aside0.mk H
        clear H
        have p2 : 0 ≤ (x1 : Int) := of_decide_eq_true zq0
        have q2 : x1 < (l0.length : Int) := of_decide_eq_true zq0
        obtain ⟨ad2, e2, hx5, hx6, hx7, hx8⟩ := at_T54 HR0.out x1 p2 q2
        obtain rfl : ad1 = ad2 := (by injection e2)
        (try replace hx5 := (HB.out.cell (World.block_lt_of_cell? w _ hx5)).trans hx5)
        (try replace hx6 := (HB.out.cell (World.block_lt_of_cell? w _ hx6)).trans hx6)
        (try replace hx7 := (HB.out.cell (World.block_lt_of_cell? w _ hx7)).trans hx7)
        (try replace hx8 := (HB.out.cell (World.block_lt_of_cell? w _ hx8)).trans hx8)
        replace p2 := eq_true p2
        replace q2 := eq_true q2
        have p3 : 0 ≤ ((j2) : Int) := of_decide_eq_true zq0
        have q3 : (j2) < (l0.length : Int) := of_decide_eq_true zq0
        obtain ⟨ad3, e3, hx9, hx10, hx11, hx12⟩ := at_T54 HR0.out (j2) p3 q3
        obtain rfl : ad1 = ad3 := (by injection e3)
        (try replace hx9 := (HB.out.cell (World.block_lt_of_cell? w _ hx9)).trans hx9)
        (try replace hx10 := (HB.out.cell (World.block_lt_of_cell? w _ hx10)).trans hx10)
        (try replace hx11 := (HB.out.cell (World.block_lt_of_cell? w _ hx11)).trans hx11)
        (try replace hx12 := (HB.out.cell (World.block_lt_of_cell? w _ hx12)).trans hx12)
        replace p3 := eq_true p3
        replace q3 := eq_true q3
        go_wp2
        repeat (go_quiet (fail); try go_wp2)
        go_meet
        case rel => exact ⟨_, (decide (((rd_T54 l0 x1).f0) ≤ ((rd_T54 l0 (j2)).f0))), zq9, H', ⟨by have := HK1.out; first | omega | exact Nat.le_refl _⟩, ⟨zH⟩⟩
       ·(first | rw [c5b0] | (simp only [i64_w, i32_w]; rw [c5b0]) | rw [c5b1] | skip)
        have H' := Aside0.mk H
        clear H
        go_wp2
        repeat (go_quiet (fail); try go_wp2)
        go_meet
        case rel => exact ⟨_, (false), zq1, H', ⟨by have := HK1.out; first | omega | exact Nat.le_refl _⟩, ⟨zH⟩⟩
      case rest =>
       clear HC7
       obtain ⟨kq, x2, rfl, HA, HJ6, HB⟩ := hcut
       cases kq with
       | zero => exact absurd HA.out (by simp [R1CheckSteps.j1])
       | succ kj6 =>
        have H := HA.out
        clear HA
        simp only [R1CheckSteps.j1] at H
        by_cases c6 : x2 = true
        ·subst c6
         rw [if_pos rfl] at H
         obtain rfl := sI H
         go_wp2
         repeat (go_quiet (fail); try go_wp2)
         go_ret
         exact ⟨zE, zH⟩
        ·replace c6 := Bool.eq_false_iff.mpr c6
         subst c6
         rw [if_neg (show ¬ (false = true) by decide)] at H
         obtain ⟨c7b0, H⟩ := iteD H
         obtain ⟨c8b0, H⟩ := iteD H
         obtain ⟨t2, A2, H⟩ := bS H
         rcases iL H with ⟨c9b0, H⟩ | ⟨c9b0, H⟩
         obtain rfl := sI H
         have p2 : 0 ≤ (x1 : Int) := of_decide_eq_true zq0
         have q2 : x1 < (l0.length : Int) := of_decide_eq_true zq0
         obtain ⟨ad2, e2, hx5, hx6, hx7, hx8⟩ := at_T54 HR0.out x1 p2 q2
         obtain rfl : ad1 = ad2 := (by injection e2)
         (try replace hx5 := (HB.out.cell (World.block_lt_of_cell? w _ hx5)).trans hx5)
         (try replace hx6 := (HB.out.cell (World.block_lt_of_cell? w _ hx6)).trans hx6)
         (try replace hx7 := (HB.out.cell (World.block_lt_of_cell? w _ hx7)).trans hx7)
         (try replace hx8 := (HB.out.cell (World.block_lt_of_cell? w _ hx8)).trans hx8)
         replace p2 := eq_true p2
         replace q2 := eq_true q2
         rotate_left
         have H' := Aside0.mk H
         clear H
         have p2 : 0 ≤ (x1 : Int) := of_decide_eq_true zq0
         have q2 : x1 < (l0.length : Int) := of_decide_eq_true zq0
         obtain ⟨ad2, e2, hx5, hx6, hx7, hx8⟩ := at_T54 HR0.out x1 p2 q2
         obtain rfl : ad1 = ad2 := (by injection e2)
         (try replace hx5 := (HB.out.cell (World.block_lt_of_cell? w _ hx5)).trans hx5)
         (try replace hx6 := (HB.out.cell (World.block_lt_of_cell? w _ hx6)).trans hx6)
         (try replace hx7 := (HB.out.cell (World.block_lt_of_cell? w _ hx7)).trans hx7)
         (try replace hx8 := (HB.out.cell (World.block_lt_of_cell? w _ hx8)).trans hx8)
         replace p2 := eq_true p2
         replace q2 := eq_true q2
         rotate_left
         all_goals
          go_wp2_with (first | (go_at_call 32; (with_reducible refine (R1Sign.calls (H := A2.out) ..).mono ?_); rintro e w1 ⟨rfl, hb⟩; replace HB := sB hb; (try clear hb)))
          repeat (go_quiet (first | (go_at_call 32; (with_reducible refine (R1Sign.calls (H := A2.out) ..).mono ?_); rintro e w1 ⟨rfl, hb⟩; replace HB := sB hb; (try clear hb))); try go_wp2_with (first | (go_at_call 32; (with_reducible refine (R1Sign.calls (H := A2.out) ..).mono ?_); rintro e w1 ⟨rfl, hb⟩; replace HB := sB hb; (try clear hb))))
         ·go_ret
          exact ⟨zE, zH⟩
         ·go_roundg kj6
          case measure => have := HK1.out; have := HJ6.out; omega
          case rel => exact ⟨(wrap64 (x1 + 1)), zq1, H', ⟨by have := HK1.out; have := HJ6.out; omega⟩, ⟨zH⟩⟩
     ·replace c4 := Bool.eq_false_iff.mpr c4
      subst c4
      rw [if_neg (show ¬ (false = true) by decide)] at H
      obtain rfl := sI H
      have p1 : 0 ≤ (x1 : Int) := of_decide_eq_true zq0
      have q1 : x1 < (l0.length : Int) := of_decide_eq_true zq0
      obtain ⟨ad1, e1, hx1, hx2, hx3, hx4⟩ := at_T54 HR0.out x1 p1 q1
      cases e1
      (try replace hx1 := (HB.out.cell (World.block_lt_of_cell? w _ hx1)).trans hx1)
      (try replace hx2 := (HB.out.cell (World.block_lt_of_cell? w _ hx2)).trans hx2)
      (try replace hx3 := (HB.out.cell (World.block_lt_of_cell? w _ hx3)).trans hx3)
      (try replace hx4 := (HB.out.cell (World.block_lt_of_cell? w _ hx4)).trans hx4)
      replace p1 := eq_true p1
      replace q1 := eq_true q1
      go_wp2_with (first | (go_at_call 31; (with_reducible refine (R1IsDay.calls (H := A1.out) ..).mono ?_); rintro e w' ⟨rfl, ⟨nd, rfl⟩⟩; (try first | exact ⟨rfl, _, World.drewN_drewN _ _ _⟩ | exact ⟨rfl, _, Eq.trans (World.drewN_drewN _ _ _) (congrArg (World.drewN _) (Nat.add_assoc _ _ _))⟩)))
      repeat (go_quiet (first | (go_at_call 31; (with_reducible refine (R1IsDay.calls (H := A1.out) ..).mono ?_); rintro e w' ⟨rfl, ⟨nd, rfl⟩⟩; (try first | exact ⟨rfl, _, World.drewN_drewN _ _ _⟩ | exact ⟨rfl, _, Eq.trans (World.drewN_drewN _ _ _) (congrArg (World.drewN _) (Nat.add_assoc _ _ _))⟩))); try go_wp2_with (first | (go_at_call 31; (with_reducible refine (R1IsDay.calls (H := A1.out) ..).mono ?_); rintro e w' ⟨rfl, ⟨nd, rfl⟩⟩; (try first | exact ⟨rfl, _, World.drewN_drewN _ _ _⟩ | exact ⟨rfl, _, Eq.trans (World.drewN_drewN _ _ _) (congrArg (World.drewN _) (Nat.add_assoc _ _ _))⟩))))
      go_ret
      exact ⟨zE, zH⟩
    ·obtain rfl := sI H
     go_wp2
     repeat (go_quiet (fail); try go_wp2)
     go_ret
     exact ⟨zE, zH⟩
def R1interval.j0 : Nat → Int → Int → Bool → Bool → ByteArray → ByteArray → Option (Int)
 | 0, _, _, _, _, _, _ => none
 | k + 1, x2, x3, x20, x854000, x854001, x854002 => if x20 = true then (some 1) else (if x3 < x2 then (some 15) else ((R1Sign.f k x854000 x854001 x854002).bind fun t857 => (if t857 < 0 then (some 7) else (some 0))))
def R1interval.f (k : Nat) (a0_0 : Bool) (a0_1 : ByteArray) (a0_2 : ByteArray) (l1 : List (S54)) (a2 : Int) (a3 : Int) (a4 : Int) (a5 : Int) : Option (Int) := (R1CheckSteps.f k l1).bind fun t854 => (if t854 = 0 then ((R1IsDay.f a2).bind fun t855 => (if t855 = true then ((R1IsDay.f a3).bind fun t856 => (if t856 = true then (if a4 = 360 then (R1interval.j0 k a2 a3 (decide (a5 < 1)) a0_0 a0_1 a0_2) else (if a4 = 365 then (R1interval.j0 k a2 a3 (decide (a5 < 1)) a0_0 a0_1 a0_2) else (R1interval.j0 k a2 a3 true a0_0 a0_1 a0_2))) else (R1interval.j0 k a2 a3 true a0_0 a0_1 a0_2))) else (R1interval.j0 k a2 a3 true a0_0 a0_1 a0_2))) else (some t854))
theorem R1interval.calls (k : Nat) (a0_0 : Bool) (a0_1 : ByteArray) (a0_2 : ByteArray) (A1 : Option Addr) (c1 : Nat) (l1 : List (S54)) (a2 : Int) (a3 : Int) (a4 : Int) (a5 : Int) (r : Int) (w : World) (hr1 : Kd.C k54 w A1 l1.length l1) (hc1 : l1.length ≤ c1) (H : R1interval.f k a0_0 a0_1 a0_2 l1 a2 a3 a4 a5 = some r) :
 Calls Tryd.prog 35 #[.agg #[.bool a0_0, .string a0_1, .string a0_2], .slice A1 l1.length c1, .int .i64 a2, .int .i64 a3, .int .i64 a4, .int .i64 a5] w fun e w' => e = .returned (.int .i64 r) ∧ Below w.heap.size w w' := by
 have hu1 := Tryd.underlying29
 have HR1 := Aside0.mk hr1
 have HC1 := Aside0.mk hc1
 clear hr1 hc1
 have HB := Aside0.mk (Below.refl w.heap.size w)
 unfold R1interval.f at H
 obtain ⟨t1, A2, H⟩ := bS H
 rcases iQ H with ⟨c2b0, c2b1, H⟩ | ⟨c2b0, c2b1, H⟩
 ·have HC9 := Aside0.mk H
  clear H
  go_enter Tryd.func35, Tryd.ntmps35
  go_upto_region 4 with (first | (refine bxA w 6 #[.bool a0_0, .string a0_1, .string a0_2] 29 fun g1 w1 B1 G1 hg hb => ?_; replace HB := sB hb; clear hb hg) | (refine gB 15 Tryd.func13 (R1CheckSteps.calls k _ _ l1 t1 _ ?side1 ?side2 A2.out) fun w2 hb => ?_; (case side1 => exact sC (Kd.C_below HR1.out HB.out)); (case side2 => exact HC1.out); replace B1 := bB B1 hb; replace HB := sB hb; (try clear hb)))
  (try simp only [Act.put, List.setIfInBounds_toArray, List.set_cons_zero, List.set_cons_succ])
  go_cut [20] (fun v1 wc => ∃ (kq : Nat) (x1 : Bool), v1 = .bool x1 ∧ Aside0 (R1interval.j0 kq a2 a3 x1 a0_0 a0_1 a0_2 = some r) ∧ Aside0 (kq ≤ k) ∧ Aside0 (wc.heap[g1]? = some (.cells #[.bool a0_0, .string a0_1, .string a0_2] 29 (0, 0))) ∧ Aside0 (Below w.heap.size w wc))
  case first =>
   have H := HC9.out
   clear HC9
   obtain ⟨t2, A3, H⟩ := bS H
   by_cases c3 : t2 = true
   ·subst c3
    rw [if_pos rfl] at H
    obtain ⟨t3, A4, H⟩ := bS H
    by_cases c4 : t3 = true
    ·subst c4
     rw [if_pos rfl] at H
     rcases iQ H with ⟨c5b0, c5b1, H⟩ | ⟨c5b0, c5b1, H⟩
     (first | rw [c5b0] | (simp only [i64_w, i32_w]; rw [c5b0]) | rw [c5b1] | skip)
     have H' := Aside0.mk H
     clear H
     rotate_left
     (first | rw [c5b0] | (simp only [i64_w, i32_w]; rw [c5b0]) | rw [c5b1] | skip)
     rcases iQ H with ⟨c6b0, c6b1, H⟩ | ⟨c6b0, c6b1, H⟩
     have H' := Aside0.mk H
     clear H
     rotate_left
     have H' := Aside0.mk H
     clear H
     rotate_left
     all_goals
      go_wp2_with (first | (refine gD 22 Tryd.func31 (R1IsDay.calls a2 true _ A3.out) fun nd => ?_) | (go_at_call 31; (with_reducible refine (R1IsDay.calls a3 true _ A4.out).mono ?_); rintro e w' ⟨rfl, ⟨nd, rfl⟩⟩))
      go_meet
     ·case rel => exact ⟨_, (decide (a5 < 1)), zq1, H', ⟨by first | omega | exact Nat.le_refl _⟩, ⟨bC B1⟩, ⟨zH⟩⟩
     ·case rel => exact ⟨_, (decide (a5 < 1)), zq1, H', ⟨by first | omega | exact Nat.le_refl _⟩, ⟨bC B1⟩, ⟨zH⟩⟩
     ·case rel => exact ⟨_, (true), zq1, H', ⟨by first | omega | exact Nat.le_refl _⟩, ⟨bC B1⟩, ⟨zH⟩⟩
    ·replace c4 := Bool.eq_false_iff.mpr c4
     subst c4
     rw [if_neg (show ¬ (false = true) by decide)] at H
     have H' := Aside0.mk H
     clear H
     go_wp2_with (first | (refine gD 22 Tryd.func31 (R1IsDay.calls a2 true _ A3.out) fun nd => ?_) | (go_at_call 31; (with_reducible refine (R1IsDay.calls (H := A4.out) ..).mono ?_); rintro e w' ⟨rfl, ⟨nd, rfl⟩⟩))
     go_meet
     case rel => exact ⟨_, (true), zq1, H', ⟨by first | omega | exact Nat.le_refl _⟩, ⟨bC B1⟩, ⟨zH⟩⟩
   ·replace c3 := Bool.eq_false_iff.mpr c3
    subst c3
    rw [if_neg (show ¬ (false = true) by decide)] at H
    have H' := Aside0.mk H
    clear H
    go_wp2_with (first | (refine gD 22 Tryd.func31 (R1IsDay.calls _ _ _ A3.out) fun nd => ?_))
    go_meet
    case rel => exact ⟨_, (true), zq1, H', ⟨by first | omega | exact Nat.le_refl _⟩, ⟨bC B1⟩, ⟨zH⟩⟩
  case rest =>
   clear HC9
   obtain ⟨kq, x1, rfl, HA, HJ8, B1, HB⟩ := hcut
   cases kq with
   | zero => exact absurd HA.out (by simp [R1interval.j0])
   | succ kj8 =>
    have H := HA.out
    clear HA
    simp only [R1interval.j0] at H
    by_cases c4 : x1 = true
    ·subst c4
     rw [if_pos rfl] at H
     obtain rfl := sI H
     go_wp2
     go_ret
     exact ⟨zE, zH⟩
    ·replace c4 := Bool.eq_false_iff.mpr c4
     subst c4
     rw [if_neg (show ¬ (false = true) by decide)] at H
     rcases iL H with ⟨c5b0, H⟩ | ⟨c5b0, H⟩
     ·obtain rfl := sI H
      go_wp2
      go_ret
      exact ⟨zE, zH⟩
     ·obtain ⟨t3, A4, H⟩ := bS H
      rcases iL H with ⟨c6b0, H⟩ | ⟨c6b0, H⟩
      obtain rfl := sI H
      obtain ⟨_, _, _, _, _, _⟩ := xB3 B1
      rotate_left
      obtain rfl := sI H
      obtain ⟨_, _, _, _, _, _⟩ := xB3 B1
      rotate_left
      all_goals
       go_wp2_with (first | (refine gB 47 Tryd.func32 (R1Sign.calls _ _ _ _ _ _ A4.out) fun w3 hb => ?_; replace B1 := bB B1 hb; replace HB := sB hb; (try clear hb)))
       go_ret
       exact ⟨zE, zH⟩
 ·obtain rfl := sI H
  go_enter Tryd.func35, Tryd.ntmps35
  go_wp2_with (first | (refine bxA w 6 #[.bool a0_0, .string a0_1, .string a0_2] 29 fun g1 w1 B1 G1 hg hb => ?_; replace HB := sB hb; clear hb hg) | (refine gB 15 Tryd.func13 (R1CheckSteps.calls k _ _ l1 t1 _ ?side1 ?side2 A2.out) fun w2 hb => ?_; (case side1 => exact sC (Kd.C_below HR1.out HB.out)); (case side2 => exact HC1.out); replace B1 := bB B1 hb; replace HB := sB hb; (try clear hb)))
  go_ret
  exact ⟨zE, zH⟩
def R1rate.l0 : Nat → List (S54) → Int → Int → Bool → ByteArray → ByteArray → Option (Bool × ByteArray × ByteArray)
 | 0, _, _, _, _, _, _ => none
 | k + 1, x0, x1, x6, x860000, x860001, x860002 => if x6 < (x0.length : Int) then (if 0 ≤ x6 then (if ((rd_T54 x0 x6).f0) ≤ x1 then ((R1Fix.f k ((rd_T54 x0 x6).f1.f0) ((rd_T54 x0 x6).f1.f1) ((rd_T54 x0 x6).f1.f2)).bind fun bt862 => (R1rate.l0 k x0 x1 (wrap64 (x6 + 1)) bt862.1 bt862.2.1 bt862.2.2)) else (some (x860000, x860001, x860002))) else (none)) else (some (x860000, x860001, x860002))
def R1rate.f (k : Nat) (l0 : List (S54)) (a1 : Int) : Option (Bool × ByteArray × ByteArray) := R1rate.l0 k l0 a1 0 false (⟨#[]⟩ : ByteArray) (⟨#[]⟩ : ByteArray)
theorem R1rate.calls (k : Nat) (A0 : Option Addr) (c0 : Nat) (l0 : List (S54)) (a1 : Int) (r1 : Bool) (r2 : ByteArray) (r3 : ByteArray) (w : World) (hr0 : Kd.C k54 w A0 l0.length l0) (hc0 : l0.length ≤ c0) (H : R1rate.f k l0 a1 = some (r1, r2, r3)) :
 Calls Tryd.prog 47 #[.slice A0 l0.length c0, .int .i64 a1] w fun e w' => e = .returned (.agg #[.bool r1, .string r2, .string r3]) ∧ Below w.heap.size w w' := by
 have hu1 := Tryd.underlying29
 have HR0 := Aside0.mk hr0
 have HC0 := Aside0.mk hc0
 clear hr0 hc0
 have HB := Aside0.mk (Below.refl w.heap.size w)
 unfold R1rate.f at H
 have H' := Aside0.mk H
 clear H
 go_enter Tryd.func47, Tryd.ntmps47
 go_wp2_with (first | (refine bxA w 4 #[.bool false, .string (⟨#[]⟩ : ByteArray), .string (⟨#[]⟩ : ByteArray)] 29 fun g1 w1 B1 G1 hg hb => ?_; replace HB := sB hb; clear hb hg) | (refine bxA w 5 #[.bool false, .string (⟨#[]⟩ : ByteArray), .string (⟨#[]⟩ : ByteArray)] 29 fun g2 w2 B2 G2 hg hb => ?_; have N1 := Aside0.mk (nL B1 hg); have N2 := Aside0.mk (nG B1 hg); replace B1 := bB B1 hb; replace HB := sB hb; clear hb hg; have m1 := N2.out; have n1 := N1.out; obtain ⟨_, _, _, _, _, _⟩ := xB3 B2))
 go_loopg [6] k (fun kq v1 w' => ∃ (x1 : Int) (x2 : Bool) (x3 : ByteArray) (x4 : ByteArray), v1 = .int .i64 x1 ∧ Aside0 (R1rate.l0 kq l0 a1 x1 x2 x3 x4 = some (r1, r2, r3)) ∧ Aside0 (kq ≤ k) ∧ Aside0 (w'.heap[g1]? = some (.cells #[.bool false, .string (⟨#[]⟩ : ByteArray), .string (⟨#[]⟩ : ByteArray)] 29 (0, 0))) ∧ Aside0 (w'.heap[g2]? = some (.cells #[.bool x2, .string x3, .string x4] 29 (0, 0))) ∧ Aside0 (Below w.heap.size w w'))
 case atStart => exact ⟨(0), (false), ((⟨#[]⟩ : ByteArray)), ((⟨#[]⟩ : ByteArray)), zq1, H', ⟨Nat.le_refl _⟩, ⟨bC B1⟩, ⟨bC B2⟩, ⟨zH⟩⟩
 case round =>
  clear H'
  obtain ⟨x1, x2, x3, x4, rfl, HA, HK1, B1, B2, HB⟩ := hrel
  cases gk with
  | zero => exact absurd HA.out (by simp [R1rate.l0])
  | succ k1 =>
   have H := HA.out
   clear HA
   simp only [R1rate.l0] at H
   rcases iL H with ⟨c1b0, H⟩ | ⟨c1b0, H⟩
   ·obtain ⟨c2b0, H⟩ := iteD H
    rcases iL H with ⟨c3b0, H⟩ | ⟨c3b0, H⟩
    ·obtain ⟨⟨t1, t2, t3⟩, A1, H⟩ := bS H
     (try dsimp only at H)
     have H' := Aside0.mk H
     clear H
     have p1 : 0 ≤ (x1 : Int) := of_decide_eq_true zq0
     have q1 : x1 < (l0.length : Int) := of_decide_eq_true zq0
     obtain ⟨ad1, e1, hx1, hx2, hx3, hx4⟩ := at_T54 HR0.out x1 p1 q1
     cases e1
     (try replace hx1 := (HB.out.cell (World.block_lt_of_cell? w _ hx1)).trans hx1)
     (try replace hx2 := (HB.out.cell (World.block_lt_of_cell? w _ hx2)).trans hx2)
     (try replace hx3 := (HB.out.cell (World.block_lt_of_cell? w _ hx3)).trans hx3)
     (try replace hx4 := (HB.out.cell (World.block_lt_of_cell? w _ hx4)).trans hx4)
     replace p1 := eq_true p1
     replace q1 := eq_true q1
     have p2 : 0 ≤ (x1 : Int) := of_decide_eq_true zq0
     have q2 : x1 < (l0.length : Int) := of_decide_eq_true zq0
     obtain ⟨ad2, e2, hx5, hx6, hx7, hx8⟩ := at_T54 HR0.out x1 p2 q2
     obtain rfl : ad1 = ad2 := (by injection e2)
     (try replace hx5 := (HB.out.cell (World.block_lt_of_cell? w _ hx5)).trans hx5)
     (try replace hx6 := (HB.out.cell (World.block_lt_of_cell? w _ hx6)).trans hx6)
     (try replace hx7 := (HB.out.cell (World.block_lt_of_cell? w _ hx7)).trans hx7)
     (try replace hx8 := (HB.out.cell (World.block_lt_of_cell? w _ hx8)).trans hx8)
     replace p2 := eq_true p2
     replace q2 := eq_true q2
     go_wp2_with (first | (refine gB 28 Tryd.func38 (R1Fix.calls _ _ _ _ _ _ _ _ A1.out) fun w3 hb => ?_; replace B1 := bB B1 hb; replace B2 := bB B2 hb; replace HB := sB hb; (try clear hb); have m2 := N2.out; have n2 := N1.out; obtain ⟨_, _, _, _, _, _⟩ := xB3 B2))
     go_roundg k1
     case measure => have := HK1.out; omega
     case rel => exact ⟨(wrap64 (x1 + 1)), (t1), (t2), (t3), zq1, H', ⟨by have := HK1.out; omega⟩, ⟨bC B1⟩, ⟨bC B2⟩, ⟨zH⟩⟩
    ·simp only [Option.some.injEq, Prod.mk.injEq] at H
     obtain ⟨rfl, rfl, rfl⟩ := H
     have p1 : 0 ≤ (x1 : Int) := of_decide_eq_true zq0
     have q1 : x1 < (l0.length : Int) := of_decide_eq_true zq0
     obtain ⟨ad1, e1, hx1, hx2, hx3, hx4⟩ := at_T54 HR0.out x1 p1 q1
     cases e1
     (try replace hx1 := (HB.out.cell (World.block_lt_of_cell? w _ hx1)).trans hx1)
     (try replace hx2 := (HB.out.cell (World.block_lt_of_cell? w _ hx2)).trans hx2)
     (try replace hx3 := (HB.out.cell (World.block_lt_of_cell? w _ hx3)).trans hx3)
     (try replace hx4 := (HB.out.cell (World.block_lt_of_cell? w _ hx4)).trans hx4)
     replace p1 := eq_true p1
     replace q1 := eq_true q1
     have m2 := N2.out
     have n2 := N1.out
     obtain ⟨_, _, _, _, _, _⟩ := xB3 B2
     obtain ⟨_, _, _, _, _, _⟩ := xB3 B1
     go_wp2
     refine bodyPost_ret (results_cell_row rfl _ _ g1 29 #[.bool x2, .string x3, .string x4] (0, 0) _ rfl (bC B1) Tryd.underlying29 rfl (by kernel_rfl)) rfl ?_
     exact ⟨zE, zH⟩
   ·simp only [Option.some.injEq, Prod.mk.injEq] at H
    obtain ⟨rfl, rfl, rfl⟩ := H
    have m2 := N2.out
    have n2 := N1.out
    obtain ⟨_, _, _, _, _, _⟩ := xB3 B2
    obtain ⟨_, _, _, _, _, _⟩ := xB3 B1
    go_wp2
    refine bodyPost_ret (results_cell_row rfl _ _ g1 29 #[.bool x2, .string x3, .string x4] (0, 0) _ rfl (bC B1) Tryd.underlying29 rfl (by kernel_rfl)) rfl ?_
    exact ⟨zE, zH⟩
mutual
def R1accrued.l0 : Nat → List (S54) → Int → Int → Bool → ByteArray → ByteArray → Option (Bool × ByteArray × ByteArray)
 | 0, _, _, _, _, _, _ => none
 | k + 1, x0, x1, x2, x867000, x867001, x867002 => if x1 < x2 then (R1accrued.l1 k x0 x1 x2 x2 0 x867000 x867001 x867002) else (some (x867000, x867001, x867002))
def R1accrued.l1 : Nat → List (S54) → Int → Int → Int → Int → Bool → ByteArray → ByteArray → Option (Bool × ByteArray × ByteArray)
 | 0, _, _, _, _, _, _, _, _ => none
 | k + 1, x0, x1, x2, x8, x9, x867000, x867001, x867002 => if x9 < (x0.length : Int) then (if 0 ≤ x9 then (if ((rd_T54 x0 x9).f0) > x1 then (if ((rd_T54 x0 x9).f0) < x8 then (R1accrued.l1 k x0 x1 x2 ((rd_T54 x0 x9).f0) (wrap64 (x9 + 1)) x867000 x867001 x867002) else (R1accrued.l1 k x0 x1 x2 x8 (wrap64 (x9 + 1)) x867000 x867001 x867002)) else (R1accrued.l1 k x0 x1 x2 x8 (wrap64 (x9 + 1)) x867000 x867001 x867002)) else (none)) else ((R1rate.f k x0 x1).bind fun bt870 => ((R1Int.f k (wrap64 (x8 - x1))).bind fun bt873 => ((R1Times.f k bt870.1 bt870.2.1 bt870.2.2 bt873.1 bt873.2.1 bt873.2.2).bind fun bt876 => ((R1Plus.f k x867000 x867001 x867002 bt876.1 bt876.2.1 bt876.2.2).bind fun bt879 => (R1accrued.l0 k x0 x8 x2 bt879.1 bt879.2.1 bt879.2.2)))))
end
def R1accrued.f (k : Nat) (l0 : List (S54)) (a1 : Int) (a2 : Int) : Option (Bool × ByteArray × ByteArray) := R1accrued.l0 k l0 a1 a2 false (⟨#[]⟩ : ByteArray) (⟨#[]⟩ : ByteArray)
def R1accrued.T9 : Bool × List (List Nat × List Nat) := (true, [([], []), ([], []), ([], []), ([1, 2], [1, 2]), ([], []), ([], []), ([4, 5], [4, 5]), ([6, 3], [6]), ([3, 7, 7], [3, 7]), ([0, 8, 8], [0, 8]), ([9, 9, 0, 1, 2, 3, 4, 5, 6, 7, 8, 9], [9])])
def R1accrued.B9 : List Nat := [0, 0, 0, 6, 0, 0, 48, 126, 254, 511, 1023]
theorem R1accrued.tab9 : rtab .any (opsOf Tryd.f39 9) = R1accrued.T9 := by kernel_rfl
theorem R1accrued.bits9 : waitsOk R1accrued.T9.2 R1accrued.B9 = true := by kernel_rfl
theorem R1accrued.calls (k : Nat) (A0 : Option Addr) (c0 : Nat) (l0 : List (S54)) (a1 : Int) (a2 : Int) (r1 : Bool) (r2 : ByteArray) (r3 : ByteArray) (w : World) (hr0 : Kd.C k54 w A0 l0.length l0) (hc0 : l0.length ≤ c0) (H : R1accrued.f k l0 a1 a2 = some (r1, r2, r3)) :
 Calls Tryd.prog 39 #[.slice A0 l0.length c0, .int .i64 a1, .int .i64 a2] w fun e w' => e = .returned (.agg #[.bool r1, .string r2, .string r3]) ∧ Below w.heap.size w w' := by
 have hu1 := Tryd.underlying29
 have HR0 := Aside0.mk hr0
 have HC0 := Aside0.mk hc0
 clear hr0 hc0
 have HB := Aside0.mk (Below.refl w.heap.size w)
 unfold R1accrued.f at H
 have H' := Aside0.mk H
 clear H
 go_enter Tryd.func39, Tryd.ntmps39
 go_wp2_with (first | (refine bxA w 6 #[.bool false, .string (⟨#[]⟩ : ByteArray), .string (⟨#[]⟩ : ByteArray)] 29 fun g1 w2 B1 G1 hg hb => ?_; replace HB := sB hb; clear hb hg) | (refine bxA w 7 #[.bool false, .string (⟨#[]⟩ : ByteArray), .string (⟨#[]⟩ : ByteArray)] 29 fun g2 w3 B2 G2 hg hb => ?_; have N1 := Aside0.mk (nL B1 hg); have N2 := Aside0.mk (nG B1 hg); replace B1 := bB B1 hb; replace HB := sB hb; clear hb hg; have m1 := N2.out; have n1 := N1.out; obtain ⟨_, _, _, _, _, _⟩ := xB3 B2))
 go_loopg [1] k (fun kq v1 w' => ∃ (x1 : Int) (x2 : Bool) (x3 : ByteArray) (x4 : ByteArray), v1 = .int .i64 x1 ∧ Aside0 (R1accrued.l0 kq l0 x1 a2 x2 x3 x4 = some (r1, r2, r3)) ∧ Aside0 (kq ≤ k) ∧ Aside0 (w'.heap[g1]? = some (.cells #[.bool false, .string (⟨#[]⟩ : ByteArray), .string (⟨#[]⟩ : ByteArray)] 29 (0, 0))) ∧ Aside0 (w'.heap[g2]? = some (.cells #[.bool x2, .string x3, .string x4] 29 (0, 0))) ∧ Aside0 (Below w.heap.size w w'))
 case atStart => exact ⟨(a1), (false), ((⟨#[]⟩ : ByteArray)), ((⟨#[]⟩ : ByteArray)), zq1, H', ⟨Nat.le_refl _⟩, ⟨bC B1⟩, ⟨bC B2⟩, ⟨zH⟩⟩
 case round =>
  clear H'
  obtain ⟨x1, x2, x3, x4, rfl, HA, HK1, B1, B2, HB⟩ := hrel
  cases gk with
  | zero => exact absurd HA.out (by simp [R1accrued.l0])
  | succ k1 =>
   have H := HA.out
   clear HA
   simp only [R1accrued.l0] at H
   rcases iL H with ⟨c1b0, H⟩ | ⟨c1b0, H⟩
   ·have H' := Aside0.mk H
    clear H
    go_wp2
    go_loopg [8, 9] k1 (fun kq v2 v3 w' => ∃ (x5 : Int) (x6 : Int), v2 = .int .i64 x5 ∧ v3 = .int .i64 x6 ∧ Aside0 (R1accrued.l1 kq l0 x1 a2 x5 x6 x2 x3 x4 = some (r1, r2, r3)) ∧ Aside0 (kq ≤ k1) ∧ Aside0 (w'.heap[g1]? = some (.cells #[.bool false, .string (⟨#[]⟩ : ByteArray), .string (⟨#[]⟩ : ByteArray)] 29 (0, 0))) ∧ Aside0 (w'.heap[g2]? = some (.cells #[.bool x2, .string x3, .string x4] 29 (0, 0))) ∧ Aside0 (Below w.heap.size w w'))
    case atStart => exact ⟨(a2), (0), zq1, zq1, H', ⟨Nat.le_refl _⟩, ⟨bC B1⟩, ⟨bC B2⟩, ⟨zH⟩⟩
    case round =>
     clear H'
     obtain ⟨x5, x6, rfl, rfl, HA, HK2, B1, B2, HB⟩ := hrel
     cases gk with
     | zero => exact absurd HA.out (by simp [R1accrued.l1])
     | succ k2 =>
      have H := HA.out
      clear HA
      simp only [R1accrued.l1] at H
      rcases iL H with ⟨c2b0, H⟩ | ⟨c2b0, H⟩
      ·obtain ⟨c3b0, H⟩ := iteD H
       rcases iL H with ⟨c4b0, H⟩ | ⟨c4b0, H⟩
       ·rcases iL H with ⟨c5b0, H⟩ | ⟨c5b0, H⟩
        ·have H' := Aside0.mk H
         clear H
         have p1 : 0 ≤ (x6 : Int) := of_decide_eq_true zq0
         have q1 : x6 < (l0.length : Int) := of_decide_eq_true zq0
         obtain ⟨ad1, e1, hx1, hx2, hx3, hx4⟩ := at_T54 HR0.out x6 p1 q1
         cases e1
         (try replace hx1 := (HB.out.cell (World.block_lt_of_cell? w _ hx1)).trans hx1)
         (try replace hx2 := (HB.out.cell (World.block_lt_of_cell? w _ hx2)).trans hx2)
         (try replace hx3 := (HB.out.cell (World.block_lt_of_cell? w _ hx3)).trans hx3)
         (try replace hx4 := (HB.out.cell (World.block_lt_of_cell? w _ hx4)).trans hx4)
         replace p1 := eq_true p1
         replace q1 := eq_true q1
         have p2 : 0 ≤ (x6 : Int) := of_decide_eq_true zq0
         have q2 : x6 < (l0.length : Int) := of_decide_eq_true zq0
         obtain ⟨ad2, e2, hx5, hx6, hx7, hx8⟩ := at_T54 HR0.out x6 p2 q2
         obtain rfl : ad1 = ad2 := (by injection e2)
         (try replace hx5 := (HB.out.cell (World.block_lt_of_cell? w _ hx5)).trans hx5)
         (try replace hx6 := (HB.out.cell (World.block_lt_of_cell? w _ hx6)).trans hx6)
         (try replace hx7 := (HB.out.cell (World.block_lt_of_cell? w _ hx7)).trans hx7)
         (try replace hx8 := (HB.out.cell (World.block_lt_of_cell? w _ hx8)).trans hx8)
         replace p2 := eq_true p2
         replace q2 := eq_true q2
         have p3 : 0 ≤ (x6 : Int) := of_decide_eq_true zq0
         have q3 : x6 < (l0.length : Int) := of_decide_eq_true zq0
         obtain ⟨ad3, e3, hx9, hx10, hx11, hx12⟩ := at_T54 HR0.out x6 p3 q3
         obtain rfl : ad1 = ad3 := (by injection e3)
         (try replace hx9 := (HB.out.cell (World.block_lt_of_cell? w _ hx9)).trans hx9)
         (try replace hx10 := (HB.out.cell (World.block_lt_of_cell? w _ hx10)).trans hx10)
         (try replace hx11 := (HB.out.cell (World.block_lt_of_cell? w _ hx11)).trans hx11)
         (try replace hx12 := (HB.out.cell (World.block_lt_of_cell? w _ hx12)).trans hx12)
         replace p3 := eq_true p3
         replace q3 := eq_true q3
         go_wp2
         go_roundg k2
         case measure => have := HK1.out; have := HK2.out; omega
         case rel => exact ⟨((rd_T54 l0 x6).f0), (wrap64 (x6 + 1)), zq1, zq1, H', ⟨by have := HK1.out; have := HK2.out; omega⟩, ⟨bC B1⟩, ⟨bC B2⟩, ⟨zH⟩⟩
        ·have H' := Aside0.mk H
         clear H
         have p1 : 0 ≤ (x6 : Int) := of_decide_eq_true zq0
         have q1 : x6 < (l0.length : Int) := of_decide_eq_true zq0
         obtain ⟨ad1, e1, hx1, hx2, hx3, hx4⟩ := at_T54 HR0.out x6 p1 q1
         cases e1
         (try replace hx1 := (HB.out.cell (World.block_lt_of_cell? w _ hx1)).trans hx1)
         (try replace hx2 := (HB.out.cell (World.block_lt_of_cell? w _ hx2)).trans hx2)
         (try replace hx3 := (HB.out.cell (World.block_lt_of_cell? w _ hx3)).trans hx3)
         (try replace hx4 := (HB.out.cell (World.block_lt_of_cell? w _ hx4)).trans hx4)
         replace p1 := eq_true p1
         replace q1 := eq_true q1
         have p2 : 0 ≤ (x6 : Int) := of_decide_eq_true zq0
         have q2 : x6 < (l0.length : Int) := of_decide_eq_true zq0
         obtain ⟨ad2, e2, hx5, hx6, hx7, hx8⟩ := at_T54 HR0.out x6 p2 q2
         obtain rfl : ad1 = ad2 := (by injection e2)
         (try replace hx5 := (HB.out.cell (World.block_lt_of_cell? w _ hx5)).trans hx5)
         (try replace hx6 := (HB.out.cell (World.block_lt_of_cell? w _ hx6)).trans hx6)
         (try replace hx7 := (HB.out.cell (World.block_lt_of_cell? w _ hx7)).trans hx7)
         (try replace hx8 := (HB.out.cell (World.block_lt_of_cell? w _ hx8)).trans hx8)
         replace p2 := eq_true p2
         replace q2 := eq_true q2
         go_wp2
         go_roundg k2
         case measure => have := HK1.out; have := HK2.out; omega
         case rel => exact ⟨(x5), (wrap64 (x6 + 1)), zq1, zq1, H', ⟨by have := HK1.out; have := HK2.out; omega⟩, ⟨bC B1⟩, ⟨bC B2⟩, ⟨zH⟩⟩
       ·have H' := Aside0.mk H
        clear H
        have p1 : 0 ≤ (x6 : Int) := of_decide_eq_true zq0
        have q1 : x6 < (l0.length : Int) := of_decide_eq_true zq0
        obtain ⟨ad1, e1, hx1, hx2, hx3, hx4⟩ := at_T54 HR0.out x6 p1 q1
        cases e1
        (try replace hx1 := (HB.out.cell (World.block_lt_of_cell? w _ hx1)).trans hx1)
        (try replace hx2 := (HB.out.cell (World.block_lt_of_cell? w _ hx2)).trans hx2)
        (try replace hx3 := (HB.out.cell (World.block_lt_of_cell? w _ hx3)).trans hx3)
        (try replace hx4 := (HB.out.cell (World.block_lt_of_cell? w _ hx4)).trans hx4)
        replace p1 := eq_true p1
        replace q1 := eq_true q1
        go_wp2
        go_roundg k2
        case measure => have := HK1.out; have := HK2.out; omega
        case rel => exact ⟨(x5), (wrap64 (x6 + 1)), zq1, zq1, H', ⟨by have := HK1.out; have := HK2.out; omega⟩, ⟨bC B1⟩, ⟨bC B2⟩, ⟨zH⟩⟩
      ·obtain ⟨⟨t1, t2, t3⟩, A1, H⟩ := bS H
       (try dsimp only at H)
       obtain ⟨⟨t4, t5, t6⟩, A2, H⟩ := bS H
       (try dsimp only at H)
       obtain ⟨⟨t7, t8, t9⟩, A3, H⟩ := bS H
       (try dsimp only at H)
       obtain ⟨⟨t10, t11, t12⟩, A4, H⟩ := bS H
       (try dsimp only at H)
       have H' := Aside0.mk H
       clear H
       try go_wp2
       replace B1 := bD B1
       replace B2 := bD B2
       replace HB := hD HB
       refine startA 11 (S := fun w' => w'.cell? ⟨g2, 0, none⟩ = some (.bool x2) ∧ w'.cell? ⟨g2, 1, none⟩ = some (.string x3) ∧ w'.cell? ⟨g2, 2, none⟩ = some (.string x4)) (ds := [10]) zK (fun hHeld => ?_); refine with_tabW R1accrued.tab9 R1accrued.bits9 (fun HT_ HW_ => ?_)
       generalize wr.drew = w4 at B1 B2 HB hHeld ⊢
       refine pA 1 2 ?_
       refine pA 2 6 ?_
       refine pA 4 22 ?_
       refine pA 5 54 ?_
       refine pA 6 118 ?_
       refine tA 0 119 hHeld ?_
       refine oA 3 127 fun K hK => ?_
       refine goes_ Tryd.func47 (by kernel_rfl) rfl #[.slice A0 l0.length c0, .int .i64 x1] (by rfl) rfl rfl zq4 ?_
       with_reducible refine (R1rate.calls (H := A1.out) (hr0 := ?side1) (hc0 := ?side2) ..).mono ?_
       (case side1 => exact sC (Kd.C_below HR0.out HB.out))
       (case side2 => exact HC0.out)
       rintro e w5 ⟨rfl, hb⟩
       refine ⟨_, rfl, ?_⟩
       replace B1 := bB B1 hb
       replace B2 := bB B2 hb
       replace HB := sB hb
       (try clear hb)
       refine hK.out _ _ zK (fun hHeld => ?_)
       clear hK K
       refine normA (N := 45) ?_
       refine rcB 7 255 Tryd.func40 (R1Int.calls _ _ _ _ _ _ A2.out) hHeld br fun w6 hb hHeld => ?_
       refine rcB 8 511 Tryd.func37 (R1Times.calls _ _ _ _ _ _ _ _ _ _ _ A3.out) hHeld hb fun w7 hb hHeld => ?_
       refine rcB 9 1023 Tryd.func59 (R1Plus.calls _ _ _ _ _ _ _ _ _ _ _ A4.out) hHeld hb fun w8 hb hHeld => ?_
       replace B1 := bB B1 hb
       replace B2 := bB B2 hb
       replace HB := sB hb
       clear hb
       refine last_ (i := 10) (N := none) (lB 11 2047) rfl rfl (one_of HT_.out (by kernel_rfl)) (by decide) (fun K hK => ?_)
       have hs22 := cB B2 0 (.bool x2)
       have hfs22 := fB B2 0
       have s1 := N1.out
       have hms22_0 := N2.out
       have hs23 := cB B2 1 (.string x3)
       have hfs23 := fB B2 1
       have s2 := N1.out
       have hms23_0 := N2.out
       have hs24 := cB B2 2 (.string x4)
       have hfs24 := fB B2 2
       have s3 := N1.out
       have hms24_0 := N2.out
       refine skip_ (w1 := ?_) (by rfl) rfl ?_ ?_
       rotate_left
       ·go_simp
        rfl
       refine hK.out _ _ ?_
       clear hK K
       refine done_ (done_of HT_.out (by kernel_rfl)) ?_
       try go_wp2
       go_roundg k2
       case measure => have := HK1.out; have := HK2.out; omega
       case rel => exact ⟨(x5), (t10), (t11), (t12), zq1, H', ⟨by have := HK1.out; have := HK2.out; omega⟩, ⟨bC B1⟩, ⟨bC B2⟩, ⟨zH⟩⟩
   ·simp only [Option.some.injEq, Prod.mk.injEq] at H
    obtain ⟨rfl, rfl, rfl⟩ := H
    have m2 := N2.out
    have n2 := N1.out
    obtain ⟨_, _, _, _, _, _⟩ := xB3 B2
    obtain ⟨_, _, _, _, _, _⟩ := xB3 B1
    go_wp2
    refine bodyPost_ret (results_cell_row rfl _ _ g1 29 #[.bool x2, .string x3, .string x4] (0, 0) _ rfl (bC B1) Tryd.underlying29 rfl (by kernel_rfl)) rfl ?_
    exact ⟨zE, zH⟩
def R1Simple.f (k : Nat) (a0_0 : Bool) (a0_1 : ByteArray) (a0_2 : ByteArray) (l1 : List (S54)) (a2 : Int) (a3 : Int) (a4 : Int) : Option (Bool × ByteArray × ByteArray × Int) := (R1interval.f k a0_0 a0_1 a0_2 l1 a2 a3 a4 1).bind fun t884 => (if t884 = 0 then ((R1Fix.f k a0_0 a0_1 a0_2).bind fun bt885 => ((R1accrued.f k l1 a2 a3).bind fun bt888 => ((R1Times.f k bt885.1 bt885.2.1 bt885.2.2 bt888.1 bt888.2.1 bt888.2.2).bind fun bt891 => ((R1Int.f k a4).bind fun bt894 => ((R1Over.f k bt891.1 bt891.2.1 bt891.2.2 bt894.1 bt894.2.1 bt894.2.2).bind fun bt897 => (some (bt897.1, bt897.2.1, bt897.2.2, 0))))))) else (some (false, (⟨#[]⟩ : ByteArray), (⟨#[]⟩ : ByteArray), t884)))
theorem R1Simple.calls (k : Nat) (a0_0 : Bool) (a0_1 : ByteArray) (a0_2 : ByteArray) (A1 : Option Addr) (c1 : Nat) (l1 : List (S54)) (a2 : Int) (a3 : Int) (a4 : Int) (r1 : Bool) (r2 : ByteArray) (r3 : ByteArray) (r4 : Int) (w : World) (hr1 : Kd.C k54 w A1 l1.length l1) (hc1 : l1.length ≤ c1) (H : R1Simple.f k a0_0 a0_1 a0_2 l1 a2 a3 a4 = some (r1, r2, r3, r4)) :
 Calls Tryd.prog 16 #[.agg #[.bool a0_0, .string a0_1, .string a0_2], .slice A1 l1.length c1, .int .i64 a2, .int .i64 a3, .int .i64 a4] w fun e w' => e = .returned (.tuple #[.agg #[.bool r1, .string r2, .string r3], .int .i64 r4]) ∧ Below w.heap.size w w' := by
 have hu1 := Tryd.underlying29
 have HR1 := Aside0.mk hr1
 have HC1 := Aside0.mk hc1
 clear hr1 hc1
 have HB := Aside0.mk (Below.refl w.heap.size w)
 unfold R1Simple.f at H
 obtain ⟨t1, A2, H⟩ := bS H
 rcases iQ H with ⟨c2b0, c2b1, H⟩ | ⟨c2b0, c2b1, H⟩
 ·obtain ⟨⟨t2, t3, t4⟩, A3, H⟩ := bS H
  (try dsimp only at H)
  obtain ⟨⟨t5, t6, t7⟩, A4, H⟩ := bS H
  (try dsimp only at H)
  obtain ⟨⟨t8, t9, t10⟩, A5, H⟩ := bS H
  (try dsimp only at H)
  obtain ⟨⟨t11, t12, t13⟩, A6, H⟩ := bS H
  (try dsimp only at H)
  obtain ⟨⟨t14, t15, t16⟩, A7, H⟩ := bS H
  (try dsimp only at H)
  simp only [Option.some.injEq, Prod.mk.injEq] at H
  obtain ⟨rfl, rfl, rfl, rfl⟩ := H
  go_enter Tryd.func16, Tryd.ntmps16
  go_wp2_with (first | (refine bxA w 5 #[.bool a0_0, .string a0_1, .string a0_2] 29 fun g1 w1 B1 G1 hg hb => ?_; replace HB := sB hb; clear hb hg) | (refine bxA w 10 #[.bool false, .string (⟨#[]⟩ : ByteArray), .string (⟨#[]⟩ : ByteArray)] 29 fun g2 w2 B2 G2 hg hb => ?_; have N1 := Aside0.mk (nL B1 hg); have N2 := Aside0.mk (nG B1 hg); replace B1 := bB B1 hb; replace HB := sB hb; clear hb hg; have m1 := N1.out; have n1 := N2.out; obtain ⟨_, _, _, _, _, _⟩ := xB3 B1) | (refine gB 18 Tryd.func35 (R1interval.calls _ _ _ _ _ _ _ _ _ _ _ _ _ ?side1 ?side2 A2.out) fun w3 hb => ?_; (case side1 => exact sC (Kd.C_below HR1.out HB.out)); (case side2 => exact HC1.out); replace B1 := bB B1 hb; replace B2 := bB B2 hb; replace HB := sB hb; (try clear hb); obtain ⟨_, _, _, _, _, _⟩ := xB3 B1) | (refine gB 24 Tryd.func38 (R1Fix.calls _ _ _ _ _ _ _ _ A3.out) fun w4 hb => ?_; replace B1 := bB B1 hb; replace B2 := bB B2 hb; replace HB := sB hb; (try clear hb)) | (refine gB 28 Tryd.func39 (R1accrued.calls _ _ _ _ _ _ _ _ _ _ ?side1 ?side2 A4.out) fun w5 hb => ?_; (case side1 => exact sC (Kd.C_below HR1.out HB.out)); (case side2 => exact HC1.out); replace B1 := bB B1 hb; replace B2 := bB B2 hb; replace HB := sB hb; (try clear hb)) | (refine gB 29 Tryd.func37 (R1Times.calls _ _ _ _ _ _ _ _ _ _ _ A5.out) fun w6 hb => ?_; replace B1 := bB B1 hb; replace B2 := bB B2 hb; replace HB := sB hb; (try clear hb)) | (refine gB 31 Tryd.func40 (R1Int.calls _ _ _ _ _ _ A6.out) fun w7 hb => ?_; replace B1 := bB B1 hb; replace B2 := bB B2 hb; replace HB := sB hb; (try clear hb)) | (refine gB 32 Tryd.func36 (R1Over.calls _ _ _ _ _ _ _ _ _ _ _ A7.out) fun w8 hb => ?_; replace B1 := bB B1 hb; replace B2 := bB B2 hb; replace HB := sB hb; (try clear hb); obtain ⟨_, _, _, _, _, _⟩ := xB3 B2))
  refine bodyPost_ret (results_ct rfl _ _ g2 29 #[.bool t14, .string t15, .string t16] (0, 0) _ rfl (bC B2) Tryd.underlying29 rfl (by kernel_rfl)) rfl ?_
  exact ⟨zE, zH⟩
 ·simp only [Option.some.injEq, Prod.mk.injEq] at H
  obtain ⟨rfl, rfl, rfl, rfl⟩ := H
  go_enter Tryd.func16, Tryd.ntmps16
  go_wp2_with (first | (refine bxA w 5 #[.bool a0_0, .string a0_1, .string a0_2] 29 fun g1 w1 B1 G1 hg hb => ?_; replace HB := sB hb; clear hb hg) | (refine bxA w 10 #[.bool false, .string (⟨#[]⟩ : ByteArray), .string (⟨#[]⟩ : ByteArray)] 29 fun g2 w2 B2 G2 hg hb => ?_; have N1 := Aside0.mk (nL B1 hg); have N2 := Aside0.mk (nG B1 hg); replace B1 := bB B1 hb; replace HB := sB hb; clear hb hg; have m1 := N1.out; have n1 := N2.out; obtain ⟨_, _, _, _, _, _⟩ := xB3 B1) | (refine gB 18 Tryd.func35 (R1interval.calls _ _ _ _ _ _ _ _ _ _ _ _ _ ?side1 ?side2 A2.out) fun w3 hb => ?_; (case side1 => exact sC (Kd.C_below HR1.out HB.out)); (case side2 => exact HC1.out); replace B1 := bB B1 hb; replace B2 := bB B2 hb; replace HB := sB hb; (try clear hb); obtain ⟨_, _, _, _, _, _⟩ := xB3 B2))
  refine bodyPost_ret (results_ct rfl _ _ g2 29 #[.bool false, .string (⟨#[]⟩ : ByteArray), .string (⟨#[]⟩ : ByteArray)] (0, 0) _ rfl (bC B2) Tryd.underlying29 rfl (by kernel_rfl)) rfl ?_
  exact ⟨zE, zH⟩
def L0Few.f (a0_0 : Bool) (a0_1 : ByteArray) (a0_2 : ByteArray) : Option (Bool) := if (a0_1.size : Int) ≤ 24 then (some (decide ((a0_2.size : Int) ≤ 24))) else (some false)
theorem L0Few.calls (a0_0 : Bool) (a0_1 : ByteArray) (a0_2 : ByteArray) (r : Bool) (w : World) (H : L0Few.f a0_0 a0_1 a0_2 = some r) :
 Calls Tryd.prog 14 #[.agg #[.bool a0_0, .string a0_1, .string a0_2]] w fun e w' => e = .returned (.bool r) ∧ Below w.heap.size w w' := by
 have hu1 := Tryd.underlying29
 have HB := Aside0.mk (Below.refl w.heap.size w)
 unfold L0Few.f at H
 by_cases c1 : (a0_1.size : Int) ≤ 24
 rw [if_pos c1] at H
 have c1b0 := decide_eq_true c1
 have c1b1 : decide (a0_1.size ≤ 24) = true := decide_eq_true (by omega)
 clear c1
 obtain rfl := sI H
 rotate_left
 rw [if_neg c1] at H
 have c1b0 := decide_eq_false c1
 have c1b1 : decide (a0_1.size ≤ 24) = false := decide_eq_false (by omega)
 clear c1
 obtain rfl := sI H
 rotate_left
 all_goals
  go_enter Tryd.func14, Tryd.ntmps14
  go_wp2_with (first | ((with_reducible refine gate_dst (N := 1) rfl ?_); (try (refine gate_guard (by rfl) ?_; dsimp only)); refine box_event ?hg (N := 1) ?hd (cs := #[.bool a0_0, .string a0_1, .string a0_2]) (t := 29) ?hr ?_; (case hd => rfl); (case hg => rfl); (case hr => first | (go_simp; done) | (go_simp; rfl)); intro g1 hg w1 hbox hb; have B1 := Aside0.mk hbox; have G1 := wE w hg; replace HB := sB hb; clear hb hbox hg; obtain ⟨_, _, _, _, _, _⟩ := xB3 B1))
  go_ret
  exact ⟨zE, zH⟩
def L0Ratio.f (k : Nat) (a0 : Int) (a1 : Int) : Option (Bool × ByteArray × ByteArray) := (R1Fraction.f k a0 a1).bind fun bt911 => (some (bt911.1, bt911.2.1, bt911.2.2.1))
theorem L0Ratio.calls (k : Nat) (a0 : Int) (a1 : Int) (r1 : Bool) (r2 : ByteArray) (r3 : ByteArray) (w : World) (H : L0Ratio.f k a0 a1 = some (r1, r2, r3)) :
 Calls Tryd.prog 27 #[.int .i64 a0, .int .i64 a1] w fun e w' => e = .returned (.agg #[.bool r1, .string r2, .string r3]) ∧ Below w.heap.size w w' := by
 have hu1 := Tryd.underlying29
 have HB := Aside0.mk (Below.refl w.heap.size w)
 unfold L0Ratio.f at H
 obtain ⟨⟨t1, t2, t3, t4⟩, A1, H⟩ := bS H
 (try dsimp only at H)
 simp only [Option.some.injEq, Prod.mk.injEq] at H
 obtain ⟨rfl, rfl, rfl⟩ := H
 go_enter Tryd.func27, Tryd.ntmps27
 go_wp2_with (first | (refine bxA w 4 #[.bool false, .string (⟨#[]⟩ : ByteArray), .string (⟨#[]⟩ : ByteArray)] 29 fun g1 w1 B1 G1 hg hb => ?_; replace HB := sB hb; clear hb hg) | (refine gB 10 Tryd.func52 (R1Fraction.calls _ _ _ _ _ _ _ _ A1.out) fun w2 hb => ?_; replace B1 := bB B1 hb; replace HB := sB hb; (try clear hb)) | (refine bxA w 5 #[.bool false, .string (⟨#[]⟩ : ByteArray), .string (⟨#[]⟩ : ByteArray)] 29 fun g2 w3 B2 G2 hg hb => ?_; have N1 := Aside0.mk (nL B1 hg); have N2 := Aside0.mk (nG B1 hg); replace B1 := bB B1 hb; replace HB := sB hb; clear hb hg; have m1 := N2.out; have n1 := N1.out; obtain ⟨_, _, _, _, _, _⟩ := xB3 B2; obtain ⟨_, _, _, _, _, _⟩ := xB3 B1))
 refine bodyPost_ret (results_cell_row rfl _ _ g1 29 #[.bool t1, .string t2, .string t3] (0, 0) _ rfl (bC B1) Tryd.underlying29 rfl (by kernel_rfl)) rfl ?_
 exact ⟨zE, zH⟩
def L0Whole.f (k : Nat) (a0 : Int) : Option (Bool × ByteArray × ByteArray) := (R1Int.f k a0).bind fun bt926 => (some (bt926.1, bt926.2.1, bt926.2.2))
theorem L0Whole.calls (k : Nat) (a0 : Int) (r1 : Bool) (r2 : ByteArray) (r3 : ByteArray) (w : World) (H : L0Whole.f k a0 = some (r1, r2, r3)) :
 Calls Tryd.prog 28 #[.int .i64 a0] w fun e w' => e = .returned (.agg #[.bool r1, .string r2, .string r3]) ∧ Below w.heap.size w w' := by
 have hu1 := Tryd.underlying29
 have HB := Aside0.mk (Below.refl w.heap.size w)
 unfold L0Whole.f at H
 obtain ⟨⟨t1, t2, t3⟩, A1, H⟩ := bS H
 (try dsimp only at H)
 simp only [Option.some.injEq, Prod.mk.injEq] at H
 obtain ⟨rfl, rfl, rfl⟩ := H
 go_enter Tryd.func28, Tryd.ntmps28
 go_wp2_with (first | (refine bxA w 2 #[.bool false, .string (⟨#[]⟩ : ByteArray), .string (⟨#[]⟩ : ByteArray)] 29 fun g1 w1 B1 G1 hg hb => ?_; replace HB := sB hb; clear hb hg) | (refine gB 4 Tryd.func40 (R1Int.calls _ _ _ _ _ _ A1.out) fun w2 hb => ?_; replace B1 := bB B1 hb; replace HB := sB hb; (try clear hb); obtain ⟨_, _, _, _, _, _⟩ := xB3 B1))
 refine bodyPost_ret (results_cell_row rfl _ _ g1 29 #[.bool t1, .string t2, .string t3] (0, 0) _ rfl (bC B1) Tryd.underlying29 rfl (by kernel_rfl)) rfl ?_
 exact ⟨zE, zH⟩
def L6few.l0 : Nat → List (S54) → Int → Int → Option (Bool)
 | 0, _, _, _ => none
 | k + 1, x8, x9, x10 => if x10 < x9 then (if 0 ≤ x10 then (if x10 < (x8.length : Int) then ((L0Few.f ((rd_T54 x8 x10).f1.f0) ((rd_T54 x8 x10).f1.f1) ((rd_T54 x8 x10).f1.f2)).bind fun t941 => (if t941 = true then (L6few.l0 k x8 x9 (wrap64 (x10 + 1))) else (some false))) else (none)) else (none)) else (some true)
def L6few.f (k : Nat) (l0 : List (S54)) : Option (Bool) := if (l0.length : Int) > 10 then (some false) else (L6few.l0 k l0 (l0.length : Int) 0)
theorem L6few.calls (k : Nat) (A0 : Option Addr) (c0 : Nat) (l0 : List (S54)) (r : Bool) (w : World) (hr0 : Kd.C k54 w A0 l0.length l0) (hc0 : l0.length ≤ c0) (H : L6few.f k l0 = some r) :
 Calls Tryd.prog 10 #[.slice A0 l0.length c0] w fun e w' => e = .returned (.bool r) ∧ Below w.heap.size w w' := by
 have hu1 := Tryd.underlying54
 have hu2 := Tryd.underlying29
 have HR0 := Aside0.mk hr0
 have HC0 := Aside0.mk hc0
 clear hr0 hc0
 have HB := Aside0.mk (Below.refl w.heap.size w)
 unfold L6few.f at H
 by_cases c1 : (l0.length : Int) > 10
 ·rw [if_pos c1] at H
  have c1b0 := decide_eq_true c1
  have c1b1 : decide (10 < l0.length) = true := decide_eq_true (by omega)
  clear c1
  obtain rfl := sI H
  go_enter Tryd.func10, Tryd.ntmps10
  go_wp2
  go_ret
  exact ⟨zE, zH⟩
 ·rw [if_neg c1] at H
  have c1b0 := decide_eq_false c1
  have c1b1 : decide (10 < l0.length) = false := decide_eq_false (by omega)
  clear c1
  have H' := Aside0.mk H
  clear H
  go_enter Tryd.func10, Tryd.ntmps10
  go_wp2
  go_loopg [10] k (fun kq v1 w' => ∃ (x1 : Int), v1 = .int .i64 x1 ∧ Aside0 (L6few.l0 kq l0 (l0.length : Int) x1 = some r) ∧ Aside0 (kq ≤ k) ∧ Aside0 (Below w.heap.size w w'))
  case atStart => exact ⟨(0), zq1, H', ⟨Nat.le_refl _⟩, ⟨zH⟩⟩
  case round =>
   clear H'
   obtain ⟨x1, rfl, HA, HK1, HB⟩ := hrel
   cases gk with
   | zero => exact absurd HA.out (by simp [L6few.l0])
   | succ k1 =>
    have H := HA.out
    clear HA
    simp only [L6few.l0] at H
    rcases iL H with ⟨c2b0, H⟩ | ⟨c2b0, H⟩
    ·obtain ⟨c3b0, H⟩ := iteD H
     obtain ⟨c4b0, H⟩ := iteD H
     obtain ⟨t1, A1, H⟩ := bS H
     by_cases c5 : t1 = true
     subst c5
     rw [if_pos rfl] at H
     have H' := Aside0.mk H
     clear H
     have p1 : 0 ≤ (x1 : Int) := of_decide_eq_true zq0
     have q1 : x1 < (l0.length : Int) := of_decide_eq_true zq0
     obtain ⟨ad1, e1, hx1, hx2, hx3, hx4⟩ := at_T54 HR0.out x1 p1 q1
     cases e1
     (try replace hx1 := (HB.out.cell (World.block_lt_of_cell? w _ hx1)).trans hx1)
     (try replace hx2 := (HB.out.cell (World.block_lt_of_cell? w _ hx2)).trans hx2)
     (try replace hx3 := (HB.out.cell (World.block_lt_of_cell? w _ hx3)).trans hx3)
     (try replace hx4 := (HB.out.cell (World.block_lt_of_cell? w _ hx4)).trans hx4)
     replace p1 := eq_true p1
     replace q1 := eq_true q1
     rotate_left
     replace c5 := Bool.eq_false_iff.mpr c5
     subst c5
     rw [if_neg (show ¬ (false = true) by decide)] at H
     obtain rfl := sI H
     have p1 : 0 ≤ (x1 : Int) := of_decide_eq_true zq0
     have q1 : x1 < (l0.length : Int) := of_decide_eq_true zq0
     obtain ⟨ad1, e1, hx1, hx2, hx3, hx4⟩ := at_T54 HR0.out x1 p1 q1
     cases e1
     (try replace hx1 := (HB.out.cell (World.block_lt_of_cell? w _ hx1)).trans hx1)
     (try replace hx2 := (HB.out.cell (World.block_lt_of_cell? w _ hx2)).trans hx2)
     (try replace hx3 := (HB.out.cell (World.block_lt_of_cell? w _ hx3)).trans hx3)
     (try replace hx4 := (HB.out.cell (World.block_lt_of_cell? w _ hx4)).trans hx4)
     replace p1 := eq_true p1
     replace q1 := eq_true q1
     rotate_left
     all_goals
      go_wp2_with (first | (refine bxA w 4 #[.int .i64 0, .bool false, .string (⟨#[]⟩ : ByteArray), .string (⟨#[]⟩ : ByteArray)] 54 fun g1 w1 B1 G1 hg hb => ?_; replace HB := sB hb; clear hb hg; obtain ⟨_, _, _, _, _, _, _, _⟩ := xB4 B1) | (refine gB 16 Tryd.func14 (L0Few.calls _ _ _ _ _ A1.out) fun w2 hb => ?_; replace B1 := Aside0.mk (blk_below (bC B1) hb); replace HB := sB hb; (try clear hb)))
     ·go_roundg k1
      case measure => have := HK1.out; omega
      case rel => exact ⟨(wrap64 (x1 + 1)), zq1, H', ⟨by have := HK1.out; omega⟩, ⟨zH⟩⟩
     ·go_ret
      exact ⟨zE, zH⟩
    ·obtain rfl := sI H
     go_wp2
     go_ret
     exact ⟨zE, zH⟩
end Go.Proofs.YtggfilmdfpmbmaaDoor.QN
end
