/-
  Steps and laws behind the statement that the claim's last text proves: the words of the walks, the walks of the Go functions (printed by a program of this session's own, then shortened by one), and what they compute. Conditions: stated at each theorem.
-/
import Derived.Test.YtggfilmdfpmbmaaGreatDoorP1
import Derived.Test.YtggfilmdfpmbmaaGreatDoorP0
section
namespace Go.Proofs.YtggfilmdfpmbmaaGreatDoor.QN
open Go.RowKit Go.Proofs.YtggfilmdfpmbmaaGreatDoorW.PrintWords Go.Proofs.YtggfilmdfpmbmaaGreatDoorW.PrintLast Go.Proofs.YtggfilmdfpmbmaaGreatDoorW.PrintMore
attribute [local go_sem] max2_int min2_int max_two min_two max_three min_three max_four min_four
set_option linter.unusedVariables false
set_option linter.unusedSimpArgs false
mutual
def N1step.j2 : Nat → List Int → List Int → Int → Int → Option (Int × List Int)
 | 0, _, _, _, _ => none
 | k + 1, x0, x1, x5, x7 => N1step.l1 k x0 x1 x5 x7 0 0 x1 (x1.length : Int) 0
def N1step.l1 : Nat → List Int → List Int → Int → Int → Int → Int → List Int → Int → Int → Option (Int × List Int)
 | 0, _, _, _, _, _, _, _, _, _ => none
 | k + 1, x0, x1, x5, x7, x9, x10, x82, x83, x84 => if x84 < x83 then (if 0 ≤ x84 then (if x84 < (x82.length : Int) then (if x84 < (x0.length : Int) then ((bits_Sub32.f (rd x0 x84) ((IntKind.u64.wrap ((IntKind.u64.wrap (x7 * (IntKind.u64.wrap (rd x82 x84)))) + x9)) % 4294967296) x10).bind fun bt157 => (N1step.l1 k (x0.set (x84 : Int).toNat bt157.1) x1 x5 x7 ((IntKind.u64.wrap ((IntKind.u64.wrap (x7 * (IntKind.u64.wrap (rd x82 x84)))) + x9)) / 4294967296) bt157.2 x82 x83 (wrap64 (x84 + 1)))) else (none)) else (none)) else (none)) else (if 0 ≤ x5 then (if x5 < (x0.length : Int) then ((bits_Sub32.f (rd x0 x5) ((x9) % 4294967296) x10).bind fun bt161 => ((some (x0.set (x5 : Int).toNat bt161.1 : List Int)).bind fun y163 => (if bt161.2 = 0 then (some ((x7) % 4294967296, y163)) else (N1step.l2 k y163 x5 x7 0 x1 (x1.length : Int) 0)))) else (none)) else (none))
def N1step.l2 : Nat → List Int → Int → Int → Int → List Int → Int → Int → Option (Int × List Int)
 | 0, _, _, _, _, _, _, _ => none
 | k + 1, x0, x5, x7, x14, x130, x131, x132 => if x132 < x131 then (if 0 ≤ x132 then (if x132 < (x130.length : Int) then (if x132 < (x0.length : Int) then ((bits_Add32.f (rd x0 x132) (rd x130 x132) x14).bind fun bt166 => (N1step.l2 k (x0.set (x132 : Int).toNat bt166.1) x5 x7 bt166.2 x130 x131 (wrap64 (x132 + 1)))) else (none)) else (none)) else (none)) else (if 0 ≤ x5 then (if x5 < (x0.length : Int) then (some ((IntKind.u64.wrap (x7 - 1)) % 4294967296, (x0.set (x5 : Int).toNat (((rd x0 x5) + x14) % 4294967296)))) else (none)) else (none))
def N1step.l0 : Nat → List Int → List Int → Int → Int → Int → Option (Int × List Int)
 | 0, _, _, _, _, _ => none
 | k + 1, x0, x1, x5, x7, x8 => if x7 ≥ 4294967296 then (N1step.j1 k x0 x1 x5 x7 x8 true) else (if 0 ≤ (wrap64 (x5 - 2)) then (if (wrap64 (x5 - 2)) < (x1.length : Int) then (if (wrap64 (x5 - 2)) < (x0.length : Int) then (N1step.j1 k x0 x1 x5 x7 x8 (decide ((IntKind.u64.wrap (x7 * (IntKind.u64.wrap (rd x1 (wrap64 (x5 - 2)))))) > (Go.bits .or .u64 (IntKind.u64.wrap (x8 * 4294967296)) (IntKind.u64.wrap (rd x0 (wrap64 (x5 - 2)))))))) else (none)) else (none)) else (none))
def N1step.j1 : Nat → List Int → List Int → Int → Int → Int → Bool → Option (Int × List Int)
 | 0, _, _, _, _, _, _ => none
 | k + 1, x0, x1, x5, x7, x8, x69 => if x69 = true then (if 0 ≤ (wrap64 (x5 - 1)) then (if (wrap64 (x5 - 1)) < (x1.length : Int) then (if (IntKind.u64.wrap (x8 + (IntKind.u64.wrap (rd x1 (wrap64 (x5 - 1)))))) ≥ 4294967296 then (N1step.j2 k x0 x1 x5 (IntKind.u64.wrap (x7 - 1))) else (N1step.l0 k x0 x1 x5 (IntKind.u64.wrap (x7 - 1)) (IntKind.u64.wrap (x8 + (IntKind.u64.wrap (rd x1 (wrap64 (x5 - 1)))))))) else (none)) else (none)) else (N1step.j2 k x0 x1 x5 x7)
end
def N1step.f (k : Nat) (l0 l1 : List Int) : Option (Int × List Int) := if 0 ≤ (l1.length : Int) then (if (l1.length : Int) < (l0.length : Int) then (if 0 ≤ (wrap64 ((l1.length : Int) - 1)) then (if (wrap64 ((l1.length : Int) - 1)) < (l0.length : Int) then (if (wrap64 ((l1.length : Int) - 1)) < (l1.length : Int) then (if (IntKind.u64.wrap (rd l1 (wrap64 ((l1.length : Int) - 1)))) = 0 then (none) else (N1step.l0 k l0 l1 (l1.length : Int) (IntKind.u64.wrap (Int.tdiv (Go.bits .or .u64 (IntKind.u64.wrap ((IntKind.u64.wrap (rd l0 (l1.length : Int))) * 4294967296)) (IntKind.u64.wrap (rd l0 (wrap64 ((l1.length : Int) - 1))))) (IntKind.u64.wrap (rd l1 (wrap64 ((l1.length : Int) - 1)))))) (Int.tmod (Go.bits .or .u64 (IntKind.u64.wrap ((IntKind.u64.wrap (rd l0 (l1.length : Int))) * 4294967296)) (IntKind.u64.wrap (rd l0 (wrap64 ((l1.length : Int) - 1))))) (IntKind.u64.wrap (rd l1 (wrap64 ((l1.length : Int) - 1))))))) else (none)) else (none)) else (none)) else (none)) else (none)
set_option maxHeartbeats 8000000 in
set_option maxRecDepth 100000 in
theorem N1step.calls (k : Nat) (pre_ post_ : List Int) (P0_ : Nat → Prop) (u9000_ : Value) (l0 : List Int) (A1 : Option Addr) (c1 : Nat) (l1 : List Int) (r1 : Int) (r2 : List Int) (w0 w : World) (hB : Below w0.heap.size w0 w) (ho0 : Kd.W pre_ post_ (Kd.int .u32) 80 w w0.heap.size P0_ u9000_ l0) (hr1 : ∀ W_, Kept w W_ (fun k_ => P0_ k_) → Kd.C (Kd.int .u32) W_ A1 l1.length l1) (hc1 : l1.length ≤ c1) (H : N1step.f k l0 l1 = some (r1, r2)) :
 Calls Tryz.prog 92 #[u9000_, .slice A1 l1.length c1] w fun e w' => e = .returned (.int .u32 r1) ∧ Kd.W pre_ post_ (Kd.int .u32) 80 w' w0.heap.size (fun k_ => (P0_ k_ ∨ w.heap.size ≤ k_)) u9000_ r2 ∧ Below w0.heap.size w0 w' ∧ Kept w w' (fun k_ => P0_ k_) := by
 have O1 := Aside0.mk (show Kd.W pre_ post_ (Kd.int .u32) 80 w w0.heap.size (fun k_ => (P0_ k_ ∨ w.heap.size ≤ k_)) u9000_ l0 from Kd.W_mono ho0 (fun k_ hk => (.inl hk)))
 have HR1 := Aside0.mk hr1
 have HC1 := Aside0.mk hc1
 clear hr1 hc1
 have HK := Aside0.mk (Kept.refl w (fun k_ => P0_ k_))
 have HW0 := Aside0.mk hB.size
 have HB := Aside0.mk hB
 clear hB
 unfold N1step.f at H
 replace H := of_ite H
 obtain ⟨c2, H⟩ := H
 have c2b0 := decide_eq_true c2
 have c2b1 : decide (0 ≤ l1.length) = true := decide_eq_true (by omega)
 clear c2
 replace H := of_ite H
 obtain ⟨c3, H⟩ := H
 have c3b0 := decide_eq_true c3
 have c3b1 : decide (l1.length < l0.length) = true := decide_eq_true (Int.ofNat_lt.mp c3)
 clear c3
 obtain ⟨j3, jh1, jh1w⟩ := jI ((l1.length : Int) - 1)
 first | rw [jh1] at H | simp only [jh1] at H
 replace ⟨c4b0, H⟩ := iteD H
 replace ⟨c5b0, H⟩ := iteD H
 replace ⟨c6b0, H⟩ := iteD H
 by_cases c7 : (IntKind.u64.wrap (rd l1 (j3))) = 0
 ·rw [if_pos c7] at H
  exact absurd H (by simp)
 ·rw [if_neg c7] at H
  have c7b0 := beq_eq_false_iff_ne.mpr c7
  have c7b1 := bne_iff_ne.mpr c7
  have HC10 := Aside0.mk H
  clear H
  obtain ⟨P1, d1, u1, _⟩ := Kd.W_slice O1.out
  subst u1
  obtain ⟨ad1, e1, hx1, p1, q1⟩ := atI (Kd.W_reads' rfl O1.out).2.2 (l1.length : Int)
  cases e1
  (try simp only [Go.IntWalk.toNatUp] at hx1)
  obtain ⟨ad2, e2, hx2, p2, q2⟩ := atI (Kd.W_reads' rfl O1.out).2.2 (j3)
  obtain rfl : ad1 = ad2 := (by injection e2)
  obtain ⟨ad3, e3, hx3, p3, q3⟩ := atI (Kd.C_kept_now HR1.out HK.out) (j3)
  cases e3
  obtain ⟨ad4, e4, hx4, p4, q4⟩ := atI (Kd.C_kept_now HR1.out HK.out) (j3)
  obtain rfl : ad3 = ad4 := (by injection e4)
  go_enter Tryz.func92, Tryz.ntmps92
  go_upto_block 0 with (fail)
  repeat (go_quiet (fail); go_upto_block 0 with (fail))
  go_cut [7] (fun v1 wc => ∃ (kq : Nat) (x1 : Int), v1 = .int .u64 x1 ∧ Aside0 (N1step.j2 kq l0 l1 (l1.length : Int) x1 = some (r1, r2)) ∧ Aside0 (kq ≤ k) ∧ Aside0 (Kd.W pre_ post_ (Kd.int .u32) 80 wc w0.heap.size (fun k_ => (P0_ k_ ∨ w.heap.size ≤ k_)) (.slice (some ad1) l0.length d1) l0) ∧ Aside0 (Kept w wc (fun k_ => P0_ k_)) ∧ Aside0 (Below w0.heap.size w0 wc))
  case first =>
   have H := HC10.out
   clear HC10
   have H' := Aside0.mk H
   clear H
   go_wp2
   repeat (go_quiet (fail); try go_wp2)
   go_loopg [7, 8] k (fun kq v1 v2 w' => ∃ (x2 : Int) (x3 : Int), v1 = .int .u64 x2 ∧ v2 = .int .u64 x3 ∧ Aside0 (N1step.l0 kq l0 l1 (l1.length : Int) x2 x3 = some (r1, r2)) ∧ Aside0 (kq ≤ k) ∧ Aside0 (Kd.W pre_ post_ (Kd.int .u32) 80 w' w0.heap.size (fun k_ => (P0_ k_ ∨ w.heap.size ≤ k_)) (.slice (some ad1) l0.length d1) l0) ∧ Aside0 (Kept w w' (fun k_ => P0_ k_)) ∧ Aside0 (Below w0.heap.size w0 w'))
   case atStart => exact ⟨(IntKind.u64.wrap (Int.tdiv (Go.bits .or .u64 (IntKind.u64.wrap ((IntKind.u64.wrap (rd l0 (l1.length : Int))) * 4294967296)) (IntKind.u64.wrap (rd l0 (j3)))) (IntKind.u64.wrap (rd l1 (j3))))), (Int.tmod (Go.bits .or .u64 (IntKind.u64.wrap ((IntKind.u64.wrap (rd l0 (l1.length : Int))) * 4294967296)) (IntKind.u64.wrap (rd l0 (j3)))) (IntKind.u64.wrap (rd l1 (j3)))), zq15, zq15, H', ⟨Nat.le_refl _⟩, ⟨id (by (with_reducible repeat (first | apply Kd.W_alloc | apply Kd.W_drewN | apply Kd.W_drew)); exact O1.out)⟩, ⟨zP⟩, ⟨zH⟩⟩
   case round =>
    clear H'
    obtain ⟨x2, x3, rfl, rfl, HA, HK1, HO_0, HK, HB⟩ := hrel
    cases gk with
    | zero => exact absurd HA.out (by simp [N1step.l0])
    | succ k1 =>
     have H := HA.out
     clear HA
     simp only [N1step.l0] at H
     have HC12 := Aside0.mk H
     clear H
     go_upto_region 4 with (fail)
     repeat (go_quiet (fail); go_upto_region 4 with (fail))
     go_cut [69] (fun v3 wc => ∃ (kq : Nat) (x4 : Bool), v3 = .bool x4 ∧ Aside0 (N1step.j1 kq l0 l1 (l1.length : Int) x2 x3 x4 = some (r1, r2)) ∧ Aside0 (kq ≤ k1) ∧ Aside0 (Kd.W pre_ post_ (Kd.int .u32) 80 wc w0.heap.size (fun k_ => (P0_ k_ ∨ w.heap.size ≤ k_)) (.slice (some ad1) l0.length d1) l0) ∧ Aside0 (Kept w wc (fun k_ => P0_ k_)) ∧ Aside0 (Below w0.heap.size w0 wc))
     case first =>
      have H := HC12.out
      clear HC12
      replace H := iL H
      rcases H with ⟨c8b0, H⟩ | ⟨c8b0, H⟩
      ·(first | rw [c8b0] | (simp only [i64_w, i32_w]; rw [c8b0]) | rw [c8b1] | skip)
       have H' := Aside0.mk H
       clear H
       go_wp2
       repeat (go_quiet (fail); try go_wp2)
       go_meet
       case rel => exact ⟨_, (true), zq1, H', ⟨zq12⟩, ⟨zW⟩, ⟨zP⟩, ⟨zH⟩⟩
      ·(first | rw [c8b0] | (simp only [i64_w, i32_w]; rw [c8b0]) | rw [c8b1] | skip)
       obtain ⟨j4, jh2, jh2w⟩ := jI ((l1.length : Int) - 2)
       first | rw [jh2] at H | simp only [jh2] at H
       replace ⟨c9b0, H⟩ := iteD H
       replace ⟨c10b0, H⟩ := iteD H
       replace ⟨c11b0, H⟩ := iteD H
       have H' := Aside0.mk H
       clear H
       obtain ⟨ad5, e5, hx5, p5, q5⟩ := atI (Kd.C_kept_now HR1.out HK.out) (j4)
       obtain rfl : ad3 = ad5 := (by injection e5)
       obtain ⟨ad6, e6, hx6, p6, q6⟩ := atI (Kd.W_reads' rfl HO_0.out).2.2 (j4)
       obtain rfl : ad1 = ad6 := (by injection e6)
       go_wp2
       repeat (go_quiet (fail); try go_wp2)
       go_meet
       case rel => exact ⟨_, (decide ((IntKind.u64.wrap (x2 * (IntKind.u64.wrap (rd l1 (j4))))) > (Go.bits .or .u64 (IntKind.u64.wrap (x3 * 4294967296)) (IntKind.u64.wrap (rd l0 (j4)))))), zq27, H', ⟨zq12⟩, ⟨zW⟩, ⟨zP⟩, ⟨zH⟩⟩
     case rest =>
      clear HC12
      obtain ⟨kq, x4, rfl, HA, HJ11, HO_0, HK, HB⟩ := hcut
      cases kq with
      | zero => exact absurd HA.out (by simp [N1step.j1])
      | succ kj11 =>
       have H := HA.out
       clear HA
       simp only [N1step.j1] at H
       by_cases c9 : x4 = true
       ·subst c9
        rw [if_pos rfl] at H
        obtain ⟨j4, jh2, jh2w⟩ := jI ((l1.length : Int) - 1)
        first | rw [jh2] at H | simp only [jh2] at H
        (try clear jh1w); (try clear jh1)
        replace ⟨c10b0, H⟩ := iteD H
        replace ⟨c11b0, H⟩ := iteD H
        replace H := iL H
        rcases H with ⟨c12b0, H⟩ | ⟨c12b0, H⟩
        ·have H' := Aside0.mk H
         clear H
         obtain ⟨ad5, e5, hx5, p5, q5⟩ := atI (Kd.C_kept_now HR1.out HK.out) (j4)
         obtain rfl : ad3 = ad5 := (by injection e5)
         go_wp2
         repeat (go_quiet (fail); try go_wp2)
         go_meet
         case rel => exact ⟨_, (IntKind.u64.wrap (x2 - 1)), zq1, H', ⟨by have := HK1.out; have := HJ11.out; first | omega | exact Nat.le_refl _⟩, ⟨zW⟩, ⟨zP⟩, ⟨zH⟩⟩
        ·have H' := Aside0.mk H
         clear H
         obtain ⟨ad5, e5, hx5, p5, q5⟩ := atI (Kd.C_kept_now HR1.out HK.out) (j4)
         obtain rfl : ad3 = ad5 := (by injection e5)
         go_wp2
         repeat (go_quiet (fail); try go_wp2)
         (refine Handed.intro kj11 ?measure ?_; rotate_left; go_step; (repeat apply Exists.intro); refine ⟨?rel, (by first | rfl | (simp only [add_at]; rfl))⟩)
         case measure => have := HK1.out; have := HJ11.out; omega
         case rel => exact ⟨(IntKind.u64.wrap (x2 - 1)), (IntKind.u64.wrap (x3 + (IntKind.u64.wrap (rd l1 (j4))))), zq1, zq27, H', ⟨by have := HK1.out; have := HJ11.out; omega⟩, ⟨zW⟩, ⟨zP⟩, ⟨zH⟩⟩
       ·replace c9 := Bool.eq_false_iff.mpr c9
        subst c9
        rw [if_neg (show ¬ (false = true) by decide)] at H
        have H' := Aside0.mk H
        clear H
        go_wp2
        repeat (go_quiet (fail); try go_wp2)
        go_meet
        case rel => exact ⟨_, (x2), zq1, H', ⟨by have := HK1.out; have := HJ11.out; first | omega | exact Nat.le_refl _⟩, ⟨zW⟩, ⟨zP⟩, ⟨zH⟩⟩
  case rest =>
   clear HC10
   obtain ⟨kq, x1, rfl, HA, HJ9, HO_0, HK, HB⟩ := hcut
   cases kq with
   | zero => exact absurd HA.out (by simp [N1step.j2])
   | succ kj9 =>
    have H := HA.out
    clear HA
    simp only [N1step.j2] at H
    have H' := Aside0.mk H
    clear H
    go_wp2
    repeat (go_quiet (fail); try go_wp2)
    go_loopg [9, 10, 84] kj9 (fun kq v4 v5 v6 w' => ∃ (x5 : List Int) (x6 : Int) (x7 : Int) (x8 : Int), v4 = .int .u64 x6 ∧ v5 = .int .u32 x7 ∧ v6 = .int .i64 x8 ∧ Aside0 (N1step.l1 kq x5 l1 (l1.length : Int) x1 x6 x7 l1 (l1.length : Int) x8 = some (r1, r2)) ∧ Aside0 (kq ≤ kj9) ∧ Aside0 (Kd.W pre_ post_ (Kd.int .u32) 80 w' w0.heap.size (fun k_ => (P0_ k_ ∨ w.heap.size ≤ k_)) (.slice (some ad1) l0.length d1) x5) ∧ Aside0 (Kept w w' (fun k_ => P0_ k_)) ∧ Aside0 (Below w0.heap.size w0 w'))
    case atStart => exact ⟨(l0), (0), (0), (0), zq1, zq1, zq1, H', ⟨Nat.le_refl _⟩, ⟨zW⟩, ⟨zP⟩, ⟨zH⟩⟩
    case round =>
     clear H'
     obtain ⟨x5, x6, x7, x8, rfl, rfl, rfl, HA, HK2, HO_0, HK, HB⟩ := hrel
     have hl0_2 := (Kd.W_reads' rfl HO_0.out).1
     rw [hl0_2] at HO_0
     (try simp only [hl0_2])
     cases gk with
     | zero => exact absurd HA.out (by simp [N1step.l1])
     | succ k2 =>
      have H := HA.out
      clear HA
      simp only [N1step.l1] at H
      by_cases c10 : x8 < (l1.length : Int)
      ·rw [if_pos c10] at H
       have c10b0 := decide_eq_true c10
       (try (have c23x0 := c10b0; simp only [hl0_2] at c23x0))
       clear c10
       replace ⟨c11b0, H⟩ := iteD H
       replace H := of_ite H
       obtain ⟨c12, H⟩ := H
       have c12b0 := decide_eq_true c12
       (try (have c25x0 := c12b0; simp only [hl0_2] at c25x0))
       clear c12
       replace H := of_ite H
       obtain ⟨c13, H⟩ := H
       have c13b0 := decide_eq_true c13
       (try (have c26x0 := c13b0; simp only [hl0_2] at c26x0))
       clear c13
       replace ⟨⟨t1, t2⟩, A2, H⟩ := bS H
       (try dsimp only at H)
       generalize yh1 : (x5.set (x8 : Int).toNat t1 : List Int) = y1 at H
       have Y1 := Aside0.mk yh1.symm; clear yh1
       have H' := Aside0.mk H
       clear H
       obtain ⟨ad5, e5, hx5, p5, q5⟩ := atI (Kd.C_kept_now HR1.out HK.out) x8
       obtain rfl : ad3 = ad5 := (by injection e5)
       obtain ⟨ad6, e6, hx6, p6, q6⟩ := atI (Kd.W_reads' rfl HO_0.out).2.2 x8
       obtain rfl : ad1 = ad6 := (by injection e6)
       go_wp2_with (first | (go_at_call 84; (with_reducible refine (bits_Sub32.calls (H := A2.out) ..).mono ?_); rintro e w' ⟨rfl, ⟨nd, rfl⟩⟩; (try exact dN); have p7 : 0 ≤ (x8 : Int) := of_decide_eq_true zq0; have q7 : (x8 : Int) < ((x5.length : Int) : Int) := of_decide_eq_true zq0; obtain ⟨go1, oo28, d2, u2, g1, gl28, cl28, HG28⟩ := Kd.W_form HO_0.out (by omega); (first | cases u2 | (injection u2 with ea_ en_ ec_; (first | subst ea_ | (injection ea_ with ea_; subst ea_)); subst ec_; clear en_)); have GB1 := Aside0.mk g1; have GG28 := Aside0.mk HG28; clear g1 gl28 HG28; have HMgo28 := Aside0.mk (show (P0_ go1 ∨ w.heap.size ≤ go1) from (HO_0.out.1 _ rfl)); (first | simp only [add_at] at hx1 | skip); (first | simp only [add_at] at hx2 | skip); (first | simp only [add_at] at hx7 | skip); (first | simp only [add_at] at hx6 | skip); obtain ⟨hx8, hf28_0⟩ := Kd.W_cell 0 HO_0.out (x8 : Int) p7 q7; replace p7 := eq_true p7; replace q7 := eq_true q7; obtain ⟨hy29_, hz29_⟩ := Kd.W_cell 0 HO_0.out (x8 : Int) (of_decide_eq_true zq0) (of_decide_eq_true zq0); have HP1 := Kd.W_putg HO_0.out (x8 : Int) (of_decide_eq_true zq0) zq21 t1) | (refine gS 80 110 ?_; (try (rw [drewN_self wr]; generalize hq_ : World.drewN wr _ = wr; have n0_ := Aside0.mk (Kd.W_at hq_ HO_0.out); have n1_ := Aside0.mk (kept_at hq_ HK.out); have n2_ := Aside0.mk (below_at hq_ HB.out); clear hq_ HO_0 HK HB; have HO_0 := n0_; have HK := n1_; have HB := n2_; clear n0_ n1_ n2_; (try (obtain ⟨hy29_, hz29_⟩ := Kd.W_cell 0 HO_0.out (x8 : Int) (of_decide_eq_true zq0) (of_decide_eq_true zq0))); (try (have HP1 := Kd.W_putg HO_0.out (x8 : Int) (of_decide_eq_true zq0) zq21 t1)))); refine stW 80 110 HP1 Y1 fun w2 hw hg hp_ => ?_; clear HP1; have n0_ := Aside0.mk (hp_); have n1_ := bS2 hw HB GB1; have n2_ := Aside0.mk (Kept.of_grown (S := (fun k_ => P0_ k_)) hg (zP) (fun k_ e_ => (HO_0.out.1 k_ e_))); revert n0_ n1_ n2_; clear HO_0 HB HK; intro HO_0 HB HK; clear hg hw hp_))
       repeat (go_quiet (first | (go_at_call 84; (with_reducible refine (bits_Sub32.calls (H := A2.out) ..).mono ?_); rintro e w' ⟨rfl, ⟨nd, rfl⟩⟩; (try exact dN); have p7 : 0 ≤ (x8 : Int) := of_decide_eq_true zq0; have q7 : (x8 : Int) < ((x5.length : Int) : Int) := of_decide_eq_true zq0; obtain ⟨go1, oo28, d2, u2, g1, gl28, cl28, HG28⟩ := Kd.W_form HO_0.out (by omega); (first | cases u2 | (injection u2 with ea_ en_ ec_; (first | subst ea_ | (injection ea_ with ea_; subst ea_)); subst ec_; clear en_)); have GB1 := Aside0.mk g1; have GG28 := Aside0.mk HG28; clear g1 gl28 HG28; have HMgo28 := Aside0.mk (show (P0_ go1 ∨ w.heap.size ≤ go1) from (HO_0.out.1 _ rfl)); (first | simp only [add_at] at hx1 | skip); (first | simp only [add_at] at hx2 | skip); (first | simp only [add_at] at hx7 | skip); (first | simp only [add_at] at hx6 | skip); obtain ⟨hx8, hf28_0⟩ := Kd.W_cell 0 HO_0.out (x8 : Int) p7 q7; replace p7 := eq_true p7; replace q7 := eq_true q7; obtain ⟨hy29_, hz29_⟩ := Kd.W_cell 0 HO_0.out (x8 : Int) (of_decide_eq_true zq0) (of_decide_eq_true zq0); have HP1 := Kd.W_putg HO_0.out (x8 : Int) (of_decide_eq_true zq0) zq21 t1) | (refine gS 80 110 ?_; (try (rw [drewN_self wr]; generalize hq_ : World.drewN wr _ = wr; have n0_ := Aside0.mk (Kd.W_at hq_ HO_0.out); have n1_ := Aside0.mk (kept_at hq_ HK.out); have n2_ := Aside0.mk (below_at hq_ HB.out); clear hq_ HO_0 HK HB; have HO_0 := n0_; have HK := n1_; have HB := n2_; clear n0_ n1_ n2_; (try (obtain ⟨hy29_, hz29_⟩ := Kd.W_cell 0 HO_0.out (x8 : Int) (of_decide_eq_true zq0) (of_decide_eq_true zq0))); (try (have HP1 := Kd.W_putg HO_0.out (x8 : Int) (of_decide_eq_true zq0) zq21 t1)))); refine stW 80 110 HP1 Y1 fun w2 hw hg hp_ => ?_; clear HP1; have n0_ := Aside0.mk (hp_); have n1_ := bS2 hw HB GB1; have n2_ := Aside0.mk (Kept.of_grown (S := (fun k_ => P0_ k_)) hg (zP) (fun k_ e_ => (HO_0.out.1 k_ e_))); revert n0_ n1_ n2_; clear HO_0 HB HK; intro HO_0 HB HK; clear hg hw hp_)); try go_wp2_with (first | (go_at_call 84; (with_reducible refine (bits_Sub32.calls (H := A2.out) ..).mono ?_); rintro e w' ⟨rfl, ⟨nd, rfl⟩⟩; (try exact dN); have p7 : 0 ≤ (x8 : Int) := of_decide_eq_true zq0; have q7 : (x8 : Int) < ((x5.length : Int) : Int) := of_decide_eq_true zq0; obtain ⟨go1, oo28, d2, u2, g1, gl28, cl28, HG28⟩ := Kd.W_form HO_0.out (by omega); (first | cases u2 | (injection u2 with ea_ en_ ec_; (first | subst ea_ | (injection ea_ with ea_; subst ea_)); subst ec_; clear en_)); have GB1 := Aside0.mk g1; have GG28 := Aside0.mk HG28; clear g1 gl28 HG28; have HMgo28 := Aside0.mk (show (P0_ go1 ∨ w.heap.size ≤ go1) from (HO_0.out.1 _ rfl)); (first | simp only [add_at] at hx1 | skip); (first | simp only [add_at] at hx2 | skip); (first | simp only [add_at] at hx7 | skip); (first | simp only [add_at] at hx6 | skip); obtain ⟨hx8, hf28_0⟩ := Kd.W_cell 0 HO_0.out (x8 : Int) p7 q7; replace p7 := eq_true p7; replace q7 := eq_true q7; obtain ⟨hy29_, hz29_⟩ := Kd.W_cell 0 HO_0.out (x8 : Int) (of_decide_eq_true zq0) (of_decide_eq_true zq0); have HP1 := Kd.W_putg HO_0.out (x8 : Int) (of_decide_eq_true zq0) zq21 t1) | (refine gS 80 110 ?_; (try (rw [drewN_self wr]; generalize hq_ : World.drewN wr _ = wr; have n0_ := Aside0.mk (Kd.W_at hq_ HO_0.out); have n1_ := Aside0.mk (kept_at hq_ HK.out); have n2_ := Aside0.mk (below_at hq_ HB.out); clear hq_ HO_0 HK HB; have HO_0 := n0_; have HK := n1_; have HB := n2_; clear n0_ n1_ n2_; (try (obtain ⟨hy29_, hz29_⟩ := Kd.W_cell 0 HO_0.out (x8 : Int) (of_decide_eq_true zq0) (of_decide_eq_true zq0))); (try (have HP1 := Kd.W_putg HO_0.out (x8 : Int) (of_decide_eq_true zq0) zq21 t1)))); refine stW 80 110 HP1 Y1 fun w2 hw hg hp_ => ?_; clear HP1; have n0_ := Aside0.mk (hp_); have n1_ := bS2 hw HB GB1; have n2_ := Aside0.mk (Kept.of_grown (S := (fun k_ => P0_ k_)) hg (zP) (fun k_ e_ => (HO_0.out.1 k_ e_))); revert n0_ n1_ n2_; clear HO_0 HB HK; intro HO_0 HB HK; clear hg hw hp_)))
       (try simp only [← hl0_2])
       (refine Handed.intro k2 ?measure ?_; rotate_left; go_step; (repeat apply Exists.intro); refine ⟨?rel, (by first | rfl | (simp only [add_at]; rfl))⟩)
       case measure => have := HJ9.out; have := HK2.out; omega
       case rel => exact ⟨(y1), ((IntKind.u64.wrap ((IntKind.u64.wrap (x1 * (IntKind.u64.wrap (rd l1 x8)))) + x6)) / 4294967296), (t2), (wrap64 (x8 + 1)), zq1, zq1, zq1, H', ⟨by have := HJ9.out; have := HK2.out; omega⟩, ⟨by (try simp only [hl0_2]); (with_reducible repeat (first | apply Kd.W_alloc | apply Kd.W_drewN | apply Kd.W_drew)); exact HO_0.out⟩, ⟨zP⟩, ⟨zH⟩⟩
      ·rw [if_neg c10] at H
       have c10b0 := decide_eq_false c10
       (try (have c23x0 := c10b0; simp only [hl0_2] at c23x0))
       clear c10
       replace H := of_ite H
       obtain ⟨c11, H⟩ := H
       have c11b0 := decide_eq_true c11
       have c11b1 : decide (0 ≤ l1.length) = true := decide_eq_true (by omega)
       (try (have c31x0 := c11b0; simp only [hl0_2] at c31x0))
       (try (have c31x1 := c11b1; simp only [hl0_2] at c31x1))
       clear c11
       replace H := of_ite H
       obtain ⟨c12, H⟩ := H
       have c12b0 := decide_eq_true c12
       have c12b1 : decide (l1.length < x5.length) = true := decide_eq_true (Int.ofNat_lt.mp c12)
       (try (have c32x0 := c12b0; simp only [hl0_2] at c32x0))
       (try (have c32x1 := c12b1; simp only [hl0_2] at c32x1))
       clear c12
       replace ⟨⟨t1, t2⟩, A2, H⟩ := bS H
       (try dsimp only at H)
       replace ⟨y1, Y1, H⟩ := bY H
       replace H := iQ H
       rcases H with ⟨c13b0, c13b1, H⟩ | ⟨c13b0, c13b1, H⟩
       ·simp only [Option.some.injEq, Prod.mk.injEq] at H
        obtain ⟨rfl, rfl⟩ := H
        have p5 : 0 ≤ ((l1.length : Int) : Int) := of_decide_eq_true zq0
        have q5 : (l1.length : Int) < (x5.length : Int) := of_decide_eq_true zq0
        obtain ⟨ad5, e5, hx5⟩ := Kd.at_int (Kd.W_reads' rfl HO_0.out).2.2 (l1.length : Int) p5 q5
        obtain rfl : ad1 = ad5 := (by injection e5)
        (try simp only [Go.IntWalk.toNatUp] at hx5)
        (try simp only [hl0_2] at p5)
        (try simp only [hl0_2] at q5)
        (try simp only [hl0_2] at hx5)
        replace p5 := eq_true p5
        replace q5 := eq_true q5
        go_wp2_with (first | (go_at_call 84; (with_reducible refine (bits_Sub32.calls (H := A2.out) ..).mono ?_); rintro e w' ⟨rfl, ⟨nd, rfl⟩⟩; (try exact dN); have p6 : 0 ≤ ((l1.length : Int) : Int) := of_decide_eq_true zq0; have q6 : ((l1.length : Int) : Int) < ((x5.length : Int) : Int) := of_decide_eq_true zq0; obtain ⟨go1, oo34, d2, u2, g1, gl34, cl34, HG34⟩ := Kd.W_form HO_0.out (by omega); (first | cases u2 | (injection u2 with ea_ en_ ec_; (first | subst ea_ | (injection ea_ with ea_; subst ea_)); subst ec_; clear en_)); have GB1 := Aside0.mk g1; have GG34 := Aside0.mk HG34; clear g1 gl34 HG34; have HMgo34 := Aside0.mk (show (P0_ go1 ∨ w.heap.size ≤ go1) from (HO_0.out.1 _ rfl)); (first | simp only [add_at] at hx5 | skip); obtain ⟨hx6, hf34_0⟩ := Kd.W_cell 0 HO_0.out ((l1.length : Int) : Int) p6 q6; replace p6 := eq_true p6; replace q6 := eq_true q6; obtain ⟨hy36_, hz36_⟩ := Kd.W_cell 0 HO_0.out ((l1.length : Int) : Int) (of_decide_eq_true zq0) (of_decide_eq_true zq0); (try simp only [Go.IntWalk.toNatUp] at hy36_ hz36_); have HP1 := Kd.W_putg HO_0.out ((l1.length : Int) : Int) (of_decide_eq_true zq0) zq11 t1) | (refine gS 80 125 ?_; (try (rw [drewN_self wr]; generalize hq_ : World.drewN wr _ = wr; have n0_ := Aside0.mk (Kd.W_at hq_ HO_0.out); have n1_ := Aside0.mk (kept_at hq_ HK.out); have n2_ := Aside0.mk (below_at hq_ HB.out); clear hq_ HO_0 HK HB; have HO_0 := n0_; have HK := n1_; have HB := n2_; clear n0_ n1_ n2_; (try (obtain ⟨hy36_, hz36_⟩ := Kd.W_cell 0 HO_0.out ((l1.length : Int) : Int) (of_decide_eq_true zq0) (of_decide_eq_true zq0))); (try (try simp only [Go.IntWalk.toNatUp] at hy36_ hz36_)); (try (have HP1 := Kd.W_putg HO_0.out ((l1.length : Int) : Int) (of_decide_eq_true zq0) zq11 t1)))); refine stW 80 125 HP1 Y1 fun w2 hw hg hp_ => ?_; clear HP1; have n0_ := Aside0.mk (hp_); have n1_ := bS2 hw HB GB1; have n2_ := Aside0.mk (Kept.of_grown (S := (fun k_ => P0_ k_)) hg (zP) (fun k_ e_ => (HO_0.out.1 k_ e_))); revert n0_ n1_ n2_; clear HO_0 HB HK; intro HO_0 HB HK; clear hg hw hp_))
        repeat (go_quiet (first | (go_at_call 84; (with_reducible refine (bits_Sub32.calls (H := A2.out) ..).mono ?_); rintro e w' ⟨rfl, ⟨nd, rfl⟩⟩; (try exact dN); have p6 : 0 ≤ ((l1.length : Int) : Int) := of_decide_eq_true zq0; have q6 : ((l1.length : Int) : Int) < ((x5.length : Int) : Int) := of_decide_eq_true zq0; obtain ⟨go1, oo34, d2, u2, g1, gl34, cl34, HG34⟩ := Kd.W_form HO_0.out (by omega); (first | cases u2 | (injection u2 with ea_ en_ ec_; (first | subst ea_ | (injection ea_ with ea_; subst ea_)); subst ec_; clear en_)); have GB1 := Aside0.mk g1; have GG34 := Aside0.mk HG34; clear g1 gl34 HG34; have HMgo34 := Aside0.mk (show (P0_ go1 ∨ w.heap.size ≤ go1) from (HO_0.out.1 _ rfl)); (first | simp only [add_at] at hx5 | skip); obtain ⟨hx6, hf34_0⟩ := Kd.W_cell 0 HO_0.out ((l1.length : Int) : Int) p6 q6; replace p6 := eq_true p6; replace q6 := eq_true q6; obtain ⟨hy36_, hz36_⟩ := Kd.W_cell 0 HO_0.out ((l1.length : Int) : Int) (of_decide_eq_true zq0) (of_decide_eq_true zq0); (try simp only [Go.IntWalk.toNatUp] at hy36_ hz36_); have HP1 := Kd.W_putg HO_0.out ((l1.length : Int) : Int) (of_decide_eq_true zq0) zq11 t1) | (refine gS 80 125 ?_; (try (rw [drewN_self wr]; generalize hq_ : World.drewN wr _ = wr; have n0_ := Aside0.mk (Kd.W_at hq_ HO_0.out); have n1_ := Aside0.mk (kept_at hq_ HK.out); have n2_ := Aside0.mk (below_at hq_ HB.out); clear hq_ HO_0 HK HB; have HO_0 := n0_; have HK := n1_; have HB := n2_; clear n0_ n1_ n2_; (try (obtain ⟨hy36_, hz36_⟩ := Kd.W_cell 0 HO_0.out ((l1.length : Int) : Int) (of_decide_eq_true zq0) (of_decide_eq_true zq0))); (try (try simp only [Go.IntWalk.toNatUp] at hy36_ hz36_)); (try (have HP1 := Kd.W_putg HO_0.out ((l1.length : Int) : Int) (of_decide_eq_true zq0) zq11 t1)))); refine stW 80 125 HP1 Y1 fun w2 hw hg hp_ => ?_; clear HP1; have n0_ := Aside0.mk (hp_); have n1_ := bS2 hw HB GB1; have n2_ := Aside0.mk (Kept.of_grown (S := (fun k_ => P0_ k_)) hg (zP) (fun k_ e_ => (HO_0.out.1 k_ e_))); revert n0_ n1_ n2_; clear HO_0 HB HK; intro HO_0 HB HK; clear hg hw hp_)); try go_wp2_with (first | (go_at_call 84; (with_reducible refine (bits_Sub32.calls (H := A2.out) ..).mono ?_); rintro e w' ⟨rfl, ⟨nd, rfl⟩⟩; (try exact dN); have p6 : 0 ≤ ((l1.length : Int) : Int) := of_decide_eq_true zq0; have q6 : ((l1.length : Int) : Int) < ((x5.length : Int) : Int) := of_decide_eq_true zq0; obtain ⟨go1, oo34, d2, u2, g1, gl34, cl34, HG34⟩ := Kd.W_form HO_0.out (by omega); (first | cases u2 | (injection u2 with ea_ en_ ec_; (first | subst ea_ | (injection ea_ with ea_; subst ea_)); subst ec_; clear en_)); have GB1 := Aside0.mk g1; have GG34 := Aside0.mk HG34; clear g1 gl34 HG34; have HMgo34 := Aside0.mk (show (P0_ go1 ∨ w.heap.size ≤ go1) from (HO_0.out.1 _ rfl)); (first | simp only [add_at] at hx5 | skip); obtain ⟨hx6, hf34_0⟩ := Kd.W_cell 0 HO_0.out ((l1.length : Int) : Int) p6 q6; replace p6 := eq_true p6; replace q6 := eq_true q6; obtain ⟨hy36_, hz36_⟩ := Kd.W_cell 0 HO_0.out ((l1.length : Int) : Int) (of_decide_eq_true zq0) (of_decide_eq_true zq0); (try simp only [Go.IntWalk.toNatUp] at hy36_ hz36_); have HP1 := Kd.W_putg HO_0.out ((l1.length : Int) : Int) (of_decide_eq_true zq0) zq11 t1) | (refine gS 80 125 ?_; (try (rw [drewN_self wr]; generalize hq_ : World.drewN wr _ = wr; have n0_ := Aside0.mk (Kd.W_at hq_ HO_0.out); have n1_ := Aside0.mk (kept_at hq_ HK.out); have n2_ := Aside0.mk (below_at hq_ HB.out); clear hq_ HO_0 HK HB; have HO_0 := n0_; have HK := n1_; have HB := n2_; clear n0_ n1_ n2_; (try (obtain ⟨hy36_, hz36_⟩ := Kd.W_cell 0 HO_0.out ((l1.length : Int) : Int) (of_decide_eq_true zq0) (of_decide_eq_true zq0))); (try (try simp only [Go.IntWalk.toNatUp] at hy36_ hz36_)); (try (have HP1 := Kd.W_putg HO_0.out ((l1.length : Int) : Int) (of_decide_eq_true zq0) zq11 t1)))); refine stW 80 125 HP1 Y1 fun w2 hw hg hp_ => ?_; clear HP1; have n0_ := Aside0.mk (hp_); have n1_ := bS2 hw HB GB1; have n2_ := Aside0.mk (Kept.of_grown (S := (fun k_ => P0_ k_)) hg (zP) (fun k_ e_ => (HO_0.out.1 k_ e_))); revert n0_ n1_ n2_; clear HO_0 HB HK; intro HO_0 HB HK; clear hg hw hp_)))
        go_ret
        exact ⟨zq9, (by first | exact zq32 | (simp only [hl0_2]; exact zq32)), zH, zP⟩
       ·have H' := Aside0.mk H
        clear H
        have p5 : 0 ≤ ((l1.length : Int) : Int) := of_decide_eq_true zq0
        have q5 : (l1.length : Int) < (x5.length : Int) := of_decide_eq_true zq0
        obtain ⟨ad5, e5, hx5⟩ := Kd.at_int (Kd.W_reads' rfl HO_0.out).2.2 (l1.length : Int) p5 q5
        obtain rfl : ad1 = ad5 := (by injection e5)
        (try simp only [Go.IntWalk.toNatUp] at hx5)
        (try simp only [hl0_2] at p5)
        (try simp only [hl0_2] at q5)
        (try simp only [hl0_2] at hx5)
        replace p5 := eq_true p5
        replace q5 := eq_true q5
        go_wp2_with (first | (go_at_call 84; (with_reducible refine (bits_Sub32.calls (H := A2.out) ..).mono ?_); rintro e w' ⟨rfl, ⟨nd, rfl⟩⟩; (try exact dN); have p6 : 0 ≤ ((l1.length : Int) : Int) := of_decide_eq_true zq0; have q6 : ((l1.length : Int) : Int) < ((x5.length : Int) : Int) := of_decide_eq_true zq0; obtain ⟨go1, oo34, d2, u2, g1, gl34, cl34, HG34⟩ := Kd.W_form HO_0.out (by omega); (first | cases u2 | (injection u2 with ea_ en_ ec_; (first | subst ea_ | (injection ea_ with ea_; subst ea_)); subst ec_; clear en_)); have GB1 := Aside0.mk g1; have GG34 := Aside0.mk HG34; clear g1 gl34 HG34; have HMgo34 := Aside0.mk (show (P0_ go1 ∨ w.heap.size ≤ go1) from (HO_0.out.1 _ rfl)); (first | simp only [add_at] at hx5 | skip); obtain ⟨hx6, hf34_0⟩ := Kd.W_cell 0 HO_0.out ((l1.length : Int) : Int) p6 q6; replace p6 := eq_true p6; replace q6 := eq_true q6; obtain ⟨hy38_, hz38_⟩ := Kd.W_cell 0 HO_0.out ((l1.length : Int) : Int) (of_decide_eq_true zq0) (of_decide_eq_true zq0); (try simp only [Go.IntWalk.toNatUp] at hy38_ hz38_); have HP1 := Kd.W_putg HO_0.out ((l1.length : Int) : Int) (of_decide_eq_true zq0) zq11 t1) | (refine gS 80 125 ?_; (try (rw [drewN_self wr]; generalize hq_ : World.drewN wr _ = wr; have n0_ := Aside0.mk (Kd.W_at hq_ HO_0.out); have n1_ := Aside0.mk (kept_at hq_ HK.out); have n2_ := Aside0.mk (below_at hq_ HB.out); clear hq_ HO_0 HK HB; have HO_0 := n0_; have HK := n1_; have HB := n2_; clear n0_ n1_ n2_; (try (obtain ⟨hy38_, hz38_⟩ := Kd.W_cell 0 HO_0.out ((l1.length : Int) : Int) (of_decide_eq_true zq0) (of_decide_eq_true zq0))); (try (try simp only [Go.IntWalk.toNatUp] at hy38_ hz38_)); (try (have HP1 := Kd.W_putg HO_0.out ((l1.length : Int) : Int) (of_decide_eq_true zq0) zq11 t1)))); refine stW 80 125 HP1 Y1 fun w2 hw hg hp_ => ?_; clear HP1; have n0_ := Aside0.mk (hp_); have n1_ := bS2 hw HB GB1; have n2_ := Aside0.mk (Kept.of_grown (S := (fun k_ => P0_ k_)) hg (zP) (fun k_ e_ => (HO_0.out.1 k_ e_))); revert n0_ n1_ n2_; clear HO_0 HB HK; intro HO_0 HB HK; clear hg hw hp_))
        repeat (go_quiet (first | (go_at_call 84; (with_reducible refine (bits_Sub32.calls (H := A2.out) ..).mono ?_); rintro e w' ⟨rfl, ⟨nd, rfl⟩⟩; (try exact dN); have p6 : 0 ≤ ((l1.length : Int) : Int) := of_decide_eq_true zq0; have q6 : ((l1.length : Int) : Int) < ((x5.length : Int) : Int) := of_decide_eq_true zq0; obtain ⟨go1, oo34, d2, u2, g1, gl34, cl34, HG34⟩ := Kd.W_form HO_0.out (by omega); (first | cases u2 | (injection u2 with ea_ en_ ec_; (first | subst ea_ | (injection ea_ with ea_; subst ea_)); subst ec_; clear en_)); have GB1 := Aside0.mk g1; have GG34 := Aside0.mk HG34; clear g1 gl34 HG34; have HMgo34 := Aside0.mk (show (P0_ go1 ∨ w.heap.size ≤ go1) from (HO_0.out.1 _ rfl)); (first | simp only [add_at] at hx5 | skip); obtain ⟨hx6, hf34_0⟩ := Kd.W_cell 0 HO_0.out ((l1.length : Int) : Int) p6 q6; replace p6 := eq_true p6; replace q6 := eq_true q6; obtain ⟨hy38_, hz38_⟩ := Kd.W_cell 0 HO_0.out ((l1.length : Int) : Int) (of_decide_eq_true zq0) (of_decide_eq_true zq0); (try simp only [Go.IntWalk.toNatUp] at hy38_ hz38_); have HP1 := Kd.W_putg HO_0.out ((l1.length : Int) : Int) (of_decide_eq_true zq0) zq11 t1) | (refine gS 80 125 ?_; (try (rw [drewN_self wr]; generalize hq_ : World.drewN wr _ = wr; have n0_ := Aside0.mk (Kd.W_at hq_ HO_0.out); have n1_ := Aside0.mk (kept_at hq_ HK.out); have n2_ := Aside0.mk (below_at hq_ HB.out); clear hq_ HO_0 HK HB; have HO_0 := n0_; have HK := n1_; have HB := n2_; clear n0_ n1_ n2_; (try (obtain ⟨hy38_, hz38_⟩ := Kd.W_cell 0 HO_0.out ((l1.length : Int) : Int) (of_decide_eq_true zq0) (of_decide_eq_true zq0))); (try (try simp only [Go.IntWalk.toNatUp] at hy38_ hz38_)); (try (have HP1 := Kd.W_putg HO_0.out ((l1.length : Int) : Int) (of_decide_eq_true zq0) zq11 t1)))); refine stW 80 125 HP1 Y1 fun w2 hw hg hp_ => ?_; clear HP1; have n0_ := Aside0.mk (hp_); have n1_ := bS2 hw HB GB1; have n2_ := Aside0.mk (Kept.of_grown (S := (fun k_ => P0_ k_)) hg (zP) (fun k_ e_ => (HO_0.out.1 k_ e_))); revert n0_ n1_ n2_; clear HO_0 HB HK; intro HO_0 HB HK; clear hg hw hp_)); try go_wp2_with (first | (go_at_call 84; (with_reducible refine (bits_Sub32.calls (H := A2.out) ..).mono ?_); rintro e w' ⟨rfl, ⟨nd, rfl⟩⟩; (try exact dN); have p6 : 0 ≤ ((l1.length : Int) : Int) := of_decide_eq_true zq0; have q6 : ((l1.length : Int) : Int) < ((x5.length : Int) : Int) := of_decide_eq_true zq0; obtain ⟨go1, oo34, d2, u2, g1, gl34, cl34, HG34⟩ := Kd.W_form HO_0.out (by omega); (first | cases u2 | (injection u2 with ea_ en_ ec_; (first | subst ea_ | (injection ea_ with ea_; subst ea_)); subst ec_; clear en_)); have GB1 := Aside0.mk g1; have GG34 := Aside0.mk HG34; clear g1 gl34 HG34; have HMgo34 := Aside0.mk (show (P0_ go1 ∨ w.heap.size ≤ go1) from (HO_0.out.1 _ rfl)); (first | simp only [add_at] at hx5 | skip); obtain ⟨hx6, hf34_0⟩ := Kd.W_cell 0 HO_0.out ((l1.length : Int) : Int) p6 q6; replace p6 := eq_true p6; replace q6 := eq_true q6; obtain ⟨hy38_, hz38_⟩ := Kd.W_cell 0 HO_0.out ((l1.length : Int) : Int) (of_decide_eq_true zq0) (of_decide_eq_true zq0); (try simp only [Go.IntWalk.toNatUp] at hy38_ hz38_); have HP1 := Kd.W_putg HO_0.out ((l1.length : Int) : Int) (of_decide_eq_true zq0) zq11 t1) | (refine gS 80 125 ?_; (try (rw [drewN_self wr]; generalize hq_ : World.drewN wr _ = wr; have n0_ := Aside0.mk (Kd.W_at hq_ HO_0.out); have n1_ := Aside0.mk (kept_at hq_ HK.out); have n2_ := Aside0.mk (below_at hq_ HB.out); clear hq_ HO_0 HK HB; have HO_0 := n0_; have HK := n1_; have HB := n2_; clear n0_ n1_ n2_; (try (obtain ⟨hy38_, hz38_⟩ := Kd.W_cell 0 HO_0.out ((l1.length : Int) : Int) (of_decide_eq_true zq0) (of_decide_eq_true zq0))); (try (try simp only [Go.IntWalk.toNatUp] at hy38_ hz38_)); (try (have HP1 := Kd.W_putg HO_0.out ((l1.length : Int) : Int) (of_decide_eq_true zq0) zq11 t1)))); refine stW 80 125 HP1 Y1 fun w2 hw hg hp_ => ?_; clear HP1; have n0_ := Aside0.mk (hp_); have n1_ := bS2 hw HB GB1; have n2_ := Aside0.mk (Kept.of_grown (S := (fun k_ => P0_ k_)) hg (zP) (fun k_ e_ => (HO_0.out.1 k_ e_))); revert n0_ n1_ n2_; clear HO_0 HB HK; intro HO_0 HB HK; clear hg hw hp_)))
        go_loopg [14, 132] k2 (fun kq v7 v8 w' => ∃ (x9 : List Int) (x10 : Int) (x11 : Int), v7 = .int .u32 x10 ∧ v8 = .int .i64 x11 ∧ Aside0 (N1step.l2 kq x9 (l1.length : Int) x1 x10 l1 (l1.length : Int) x11 = some (r1, r2)) ∧ Aside0 (kq ≤ k2) ∧ Aside0 (Kd.W pre_ post_ (Kd.int .u32) 80 w' w0.heap.size (fun k_ => (P0_ k_ ∨ w.heap.size ≤ k_)) (.slice (some ⟨go1, oo34, none⟩) x5.length d1) x9) ∧ Aside0 (Kept w w' (fun k_ => P0_ k_)) ∧ Aside0 (Below w0.heap.size w0 w'))
        case atStart => exact ⟨(y1), (0), (0), zq1, zq1, H', ⟨Nat.le_refl _⟩, ⟨by (try simp only [hl0_2]); (with_reducible repeat (first | apply Kd.W_alloc | apply Kd.W_drewN | apply Kd.W_drew)); exact HO_0.out⟩, ⟨zP⟩, ⟨zH⟩⟩
        case round =>
         clear H'
         obtain ⟨x9, x10, x11, rfl, rfl, HA, HK3, HO_0, HK, HB⟩ := hrel
         have hl0_3 := (Kd.W_reads' rfl HO_0.out).1
         rw [hl0_3] at HO_0
         (try simp only [hl0_3])
         cases gk with
         | zero => exact absurd HA.out (by simp [N1step.l2])
         | succ k3 =>
          have H := HA.out
          clear HA
          simp only [N1step.l2] at H
          by_cases c14 : x11 < (l1.length : Int)
          ·rw [if_pos c14] at H
           have c14b0 := decide_eq_true c14
           (try (have c40x0 := c14b0; simp only [hl0_2, hl0_3] at c40x0))
           clear c14
           replace ⟨c15b0, H⟩ := iteD H
           replace H := of_ite H
           obtain ⟨c16, H⟩ := H
           have c16b0 := decide_eq_true c16
           (try (have c42x0 := c16b0; simp only [hl0_2, hl0_3] at c42x0))
           clear c16
           replace H := of_ite H
           obtain ⟨c17, H⟩ := H
           have c17b0 := decide_eq_true c17
           (try (have c43x0 := c17b0; simp only [hl0_2, hl0_3] at c43x0))
           clear c17
           replace ⟨⟨t3, t4⟩, A3, H⟩ := bS H
           (try dsimp only at H)
           generalize yh1 : (x9.set (x11 : Int).toNat t3 : List Int) = y2 at H
           have Y2 := Aside0.mk yh1.symm; clear yh1
           have H' := Aside0.mk H
           clear H
           obtain ⟨ad6, e6, hx7, p7, q7⟩ := atI (Kd.C_kept_now HR1.out HK.out) x11
           obtain rfl : ad3 = ad6 := (by injection e6)
           obtain ⟨ad7, e7, hx8, p8, q8⟩ := atI (Kd.W_reads' rfl HO_0.out).2.2 x11
           obtain rfl : (⟨go1, oo34, none⟩ : Addr) = ad7 := (by injection e7)
           (first | simp only [add_plain] at hx8 | simp only [add_at] at hx8 | simp only [Addr.add, Nat.zero_add] at hx8 | skip)
           go_wp2_with (first | (go_at_call 74; (with_reducible refine (bits_Add32.calls (H := A3.out) ..).mono ?_); rintro e w' ⟨rfl, ⟨nd, rfl⟩⟩; (try exact dN); have p9 : 0 ≤ (x11 : Int) := of_decide_eq_true zq0; have q9 : (x11 : Int) < ((x9.length : Int) : Int) := of_decide_eq_true zq0; obtain ⟨hx9, hf45_0⟩ := Kd.W_cell 0 HO_0.out (x11 : Int) p9 q9; replace p9 := eq_true p9; replace q9 := eq_true q9; obtain ⟨hy46_, hz46_⟩ := Kd.W_cell 0 HO_0.out (x11 : Int) (of_decide_eq_true zq0) (of_decide_eq_true zq0); have HP2 := Kd.W_putg HO_0.out (x11 : Int) (of_decide_eq_true zq0) zq22 t3) | (refine gS 80 149 ?_; (try (rw [drewN_self wr]; generalize hq_ : World.drewN wr _ = wr; have n0_ := Aside0.mk (Kd.W_at hq_ HO_0.out); have n1_ := Aside0.mk (kept_at hq_ HK.out); have n2_ := Aside0.mk (below_at hq_ HB.out); clear hq_ HO_0 HK HB; have HO_0 := n0_; have HK := n1_; have HB := n2_; clear n0_ n1_ n2_; (try (obtain ⟨hy46_, hz46_⟩ := Kd.W_cell 0 HO_0.out (x11 : Int) (of_decide_eq_true zq0) (of_decide_eq_true zq0))); (try (have HP2 := Kd.W_putg HO_0.out (x11 : Int) (of_decide_eq_true zq0) zq22 t3)))); refine stW 80 149 HP2 Y2 fun w3 hw hg hp_ => ?_; clear HP2; have n0_ := Aside0.mk (hp_); have n1_ := bS2 hw HB GB1; have n2_ := Aside0.mk (Kept.of_grown (S := (fun k_ => P0_ k_)) hg (zP) (fun k_ e_ => (HO_0.out.1 k_ e_))); revert n0_ n1_ n2_; clear HO_0 HB HK; intro HO_0 HB HK; clear hg hw hp_))
           repeat (go_quiet (first | (go_at_call 74; (with_reducible refine (bits_Add32.calls (H := A3.out) ..).mono ?_); rintro e w' ⟨rfl, ⟨nd, rfl⟩⟩; (try exact dN); have p9 : 0 ≤ (x11 : Int) := of_decide_eq_true zq0; have q9 : (x11 : Int) < ((x9.length : Int) : Int) := of_decide_eq_true zq0; obtain ⟨hx9, hf45_0⟩ := Kd.W_cell 0 HO_0.out (x11 : Int) p9 q9; replace p9 := eq_true p9; replace q9 := eq_true q9; obtain ⟨hy46_, hz46_⟩ := Kd.W_cell 0 HO_0.out (x11 : Int) (of_decide_eq_true zq0) (of_decide_eq_true zq0); have HP2 := Kd.W_putg HO_0.out (x11 : Int) (of_decide_eq_true zq0) zq22 t3) | (refine gS 80 149 ?_; (try (rw [drewN_self wr]; generalize hq_ : World.drewN wr _ = wr; have n0_ := Aside0.mk (Kd.W_at hq_ HO_0.out); have n1_ := Aside0.mk (kept_at hq_ HK.out); have n2_ := Aside0.mk (below_at hq_ HB.out); clear hq_ HO_0 HK HB; have HO_0 := n0_; have HK := n1_; have HB := n2_; clear n0_ n1_ n2_; (try (obtain ⟨hy46_, hz46_⟩ := Kd.W_cell 0 HO_0.out (x11 : Int) (of_decide_eq_true zq0) (of_decide_eq_true zq0))); (try (have HP2 := Kd.W_putg HO_0.out (x11 : Int) (of_decide_eq_true zq0) zq22 t3)))); refine stW 80 149 HP2 Y2 fun w3 hw hg hp_ => ?_; clear HP2; have n0_ := Aside0.mk (hp_); have n1_ := bS2 hw HB GB1; have n2_ := Aside0.mk (Kept.of_grown (S := (fun k_ => P0_ k_)) hg (zP) (fun k_ e_ => (HO_0.out.1 k_ e_))); revert n0_ n1_ n2_; clear HO_0 HB HK; intro HO_0 HB HK; clear hg hw hp_)); try go_wp2_with (first | (go_at_call 74; (with_reducible refine (bits_Add32.calls (H := A3.out) ..).mono ?_); rintro e w' ⟨rfl, ⟨nd, rfl⟩⟩; (try exact dN); have p9 : 0 ≤ (x11 : Int) := of_decide_eq_true zq0; have q9 : (x11 : Int) < ((x9.length : Int) : Int) := of_decide_eq_true zq0; obtain ⟨hx9, hf45_0⟩ := Kd.W_cell 0 HO_0.out (x11 : Int) p9 q9; replace p9 := eq_true p9; replace q9 := eq_true q9; obtain ⟨hy46_, hz46_⟩ := Kd.W_cell 0 HO_0.out (x11 : Int) (of_decide_eq_true zq0) (of_decide_eq_true zq0); have HP2 := Kd.W_putg HO_0.out (x11 : Int) (of_decide_eq_true zq0) zq22 t3) | (refine gS 80 149 ?_; (try (rw [drewN_self wr]; generalize hq_ : World.drewN wr _ = wr; have n0_ := Aside0.mk (Kd.W_at hq_ HO_0.out); have n1_ := Aside0.mk (kept_at hq_ HK.out); have n2_ := Aside0.mk (below_at hq_ HB.out); clear hq_ HO_0 HK HB; have HO_0 := n0_; have HK := n1_; have HB := n2_; clear n0_ n1_ n2_; (try (obtain ⟨hy46_, hz46_⟩ := Kd.W_cell 0 HO_0.out (x11 : Int) (of_decide_eq_true zq0) (of_decide_eq_true zq0))); (try (have HP2 := Kd.W_putg HO_0.out (x11 : Int) (of_decide_eq_true zq0) zq22 t3)))); refine stW 80 149 HP2 Y2 fun w3 hw hg hp_ => ?_; clear HP2; have n0_ := Aside0.mk (hp_); have n1_ := bS2 hw HB GB1; have n2_ := Aside0.mk (Kept.of_grown (S := (fun k_ => P0_ k_)) hg (zP) (fun k_ e_ => (HO_0.out.1 k_ e_))); revert n0_ n1_ n2_; clear HO_0 HB HK; intro HO_0 HB HK; clear hg hw hp_)))
           (try simp only [← hl0_3])
           (refine Handed.intro k3 ?measure ?_; rotate_left; go_step; (repeat apply Exists.intro); refine ⟨?rel, (by first | rfl | (simp only [add_at]; rfl))⟩)
           case measure => have := HJ9.out; have := HK2.out; have := HK3.out; omega
           case rel => exact ⟨(y2), (t4), (wrap64 (x11 + 1)), zq1, zq1, H', ⟨by have := HJ9.out; have := HK2.out; have := HK3.out; omega⟩, ⟨by (try simp only [hl0_2]); (try simp only [hl0_3]); (with_reducible repeat (first | apply Kd.W_alloc | apply Kd.W_drewN | apply Kd.W_drew)); exact HO_0.out⟩, ⟨zP⟩, ⟨zH⟩⟩
          ·rw [if_neg c14] at H
           have c14b0 := decide_eq_false c14
           (try (have c40x0 := c14b0; simp only [hl0_2, hl0_3] at c40x0))
           clear c14
           replace H := of_ite H
           obtain ⟨c15, H⟩ := H
           have c15b0 := decide_eq_true c15
           have c15b1 : decide (0 ≤ l1.length) = true := decide_eq_true (by omega)
           (try (have c48x0 := c15b0; simp only [hl0_2, hl0_3] at c48x0))
           (try (have c48x1 := c15b1; simp only [hl0_2, hl0_3] at c48x1))
           clear c15
           replace H := of_ite H
           obtain ⟨c16, H⟩ := H
           have c16b0 := decide_eq_true c16
           have c16b1 : decide (l1.length < x9.length) = true := decide_eq_true (Int.ofNat_lt.mp c16)
           (try (have c49x0 := c16b0; simp only [hl0_2, hl0_3] at c49x0))
           (try (have c49x1 := c16b1; simp only [hl0_2, hl0_3] at c49x1))
           clear c16
           generalize yh1 : (x9.set ((l1.length : Int) : Int).toNat (((rd x9 (l1.length : Int)) + x10) % 4294967296) : List Int) = y2 at H
           have Y2 := Aside0.mk yh1.symm; clear yh1
           simp only [Option.some.injEq, Prod.mk.injEq] at H
           obtain ⟨rfl, rfl⟩ := H
           have p7 : 0 ≤ ((l1.length : Int) : Int) := of_decide_eq_true zq0
           have q7 : (l1.length : Int) < (x9.length : Int) := of_decide_eq_true zq0
           obtain ⟨ad6, e6, hx7⟩ := Kd.at_int (Kd.W_reads' rfl HO_0.out).2.2 (l1.length : Int) p7 q7
           obtain rfl : (⟨go1, oo34, none⟩ : Addr) = ad6 := (by injection e6)
           (first | simp only [add_plain] at hx7 | simp only [add_at] at hx7 | simp only [Addr.add, Nat.zero_add] at hx7 | skip)
           (try simp only [Go.IntWalk.toNatUp] at hx7)
           (try simp only [hl0_2, hl0_3] at p7)
           (try simp only [hl0_2, hl0_3] at q7)
           (try simp only [hl0_2, hl0_3] at hx7)
           replace p7 := eq_true p7
           replace q7 := eq_true q7
           have p8 : 0 ≤ ((l1.length : Int) : Int) := of_decide_eq_true zq0
           have q8 : ((l1.length : Int) : Int) < ((x9.length : Int) : Int) := of_decide_eq_true zq0
           obtain ⟨hx8, hf50_0⟩ := Kd.W_cell 0 HO_0.out ((l1.length : Int) : Int) p8 q8
           (try simp only [Go.IntWalk.toNatUp] at hx8 hf50_0)
           replace p8 := eq_true p8
           replace q8 := eq_true q8
           have HP2 := Kd.W_putg HO_0.out ((l1.length : Int) : Int) (of_decide_eq_true zq0) zq33 (((rd x9 (l1.length : Int)) + x10) % 4294967296)
           go_wp2_with (refine gS 80 157 ?_; (try (rw [drewN_self wr]; generalize hq_ : World.drewN wr _ = wr; have n0_ := Aside0.mk (Kd.W_at hq_ HO_0.out); have n1_ := Aside0.mk (kept_at hq_ HK.out); have n2_ := Aside0.mk (below_at hq_ HB.out); clear hq_ HO_0 HK HB; have HO_0 := n0_; have HK := n1_; have HB := n2_; clear n0_ n1_ n2_; (try (have HP2 := Kd.W_putg HO_0.out ((l1.length : Int) : Int) (of_decide_eq_true zq0) zq33 (((rd x9 (l1.length : Int)) + x10) % 4294967296))))); refine stW 80 157 HP2 Y2 fun w3 hw hg hp_ => ?_; clear HP2; have n0_ := Aside0.mk (hp_); have n1_ := bS2 hw HB GB1; have n2_ := Aside0.mk (Kept.of_grown (S := (fun k_ => P0_ k_)) hg (zP) (fun k_ e_ => (HO_0.out.1 k_ e_))); revert n0_ n1_ n2_; clear HO_0 HB HK; intro HO_0 HB HK; clear hg hw hp_)
           repeat (go_quiet ((refine gS 80 157 ?_; (try (rw [drewN_self wr]; generalize hq_ : World.drewN wr _ = wr; have n0_ := Aside0.mk (Kd.W_at hq_ HO_0.out); have n1_ := Aside0.mk (kept_at hq_ HK.out); have n2_ := Aside0.mk (below_at hq_ HB.out); clear hq_ HO_0 HK HB; have HO_0 := n0_; have HK := n1_; have HB := n2_; clear n0_ n1_ n2_; (try (have HP2 := Kd.W_putg HO_0.out ((l1.length : Int) : Int) (of_decide_eq_true zq0) zq33 (((rd x9 (l1.length : Int)) + x10) % 4294967296))))); refine stW 80 157 HP2 Y2 fun w3 hw hg hp_ => ?_; clear HP2; have n0_ := Aside0.mk (hp_); have n1_ := bS2 hw HB GB1; have n2_ := Aside0.mk (Kept.of_grown (S := (fun k_ => P0_ k_)) hg (zP) (fun k_ e_ => (HO_0.out.1 k_ e_))); revert n0_ n1_ n2_; clear HO_0 HB HK; intro HO_0 HB HK; clear hg hw hp_)); try go_wp2_with (refine gS 80 157 ?_; (try (rw [drewN_self wr]; generalize hq_ : World.drewN wr _ = wr; have n0_ := Aside0.mk (Kd.W_at hq_ HO_0.out); have n1_ := Aside0.mk (kept_at hq_ HK.out); have n2_ := Aside0.mk (below_at hq_ HB.out); clear hq_ HO_0 HK HB; have HO_0 := n0_; have HK := n1_; have HB := n2_; clear n0_ n1_ n2_; (try (have HP2 := Kd.W_putg HO_0.out ((l1.length : Int) : Int) (of_decide_eq_true zq0) zq33 (((rd x9 (l1.length : Int)) + x10) % 4294967296))))); refine stW 80 157 HP2 Y2 fun w3 hw hg hp_ => ?_; clear HP2; have n0_ := Aside0.mk (hp_); have n1_ := bS2 hw HB GB1; have n2_ := Aside0.mk (Kept.of_grown (S := (fun k_ => P0_ k_)) hg (zP) (fun k_ e_ => (HO_0.out.1 k_ e_))); revert n0_ n1_ n2_; clear HO_0 HB HK; intro HO_0 HB HK; clear hg hw hp_))
           go_ret
           exact ⟨zq9, (by first | exact zq32 | (simp only [hl0_2, hl0_3]; exact zq32)), zH, zP⟩
def N1stepc.f (k : Nat) (l0 : List Int) (lo hi : Int) (l1 : List Int) : Option (Int × List Int) := (N1step.f k ((l0.take hi.toNat).drop lo.toNat) l1).bind fun b => some (b.1, l0.take lo.toNat ++ b.2 ++ l0.drop hi.toNat)
theorem N1stepc.calls (k : Nat) (P0_ : Nat → Prop) (A : Option Addr) (c0 : Nat) (l0 : List Int) (lo hi : Int) (A1 : Option Addr) (c1 : Nat) (l1 : List Int) (r1 : Int) (r2 : List Int) (w0 w : World) (hB : Below w0.heap.size w0 w)
 (ho0 : Kd.R (Kd.int .u32) 80 w w0.heap.size P0_ (.slice A l0.length c0) l0) (hr1 : ∀ W_, Kept w W_ (fun k_ => P0_ k_) → Kd.C (Kd.int .u32) W_ A1 l1.length l1) (hc1 : l1.length ≤ c1) (h0 : 0 ≤ lo) (hh : hi ≤ l0.length)
 {Ac : Option Addr} {nc cc : Nat} (hA : Ac = if c0 = lo.toNat then A else A.map (·.add (lo.toNat * 1))) (hn : nc = hi.toNat - lo.toNat) (hcc : cc = c0 - lo.toNat) (h : N1stepc.f k l0 lo hi l1 = some (r1, r2)) :
 Calls Tryz.prog 92 #[.slice Ac nc cc, .slice A1 l1.length c1] w fun e w' => e = .returned (.int .u32 r1) ∧ Kd.R (Kd.int .u32) 80 w' w0.heap.size (fun k_ => (P0_ k_ ∨ w.heap.size ≤ k_)) (.slice A l0.length c0) r2 ∧ Below w0.heap.size w0 w' ∧ Kept w w' (fun k_ => P0_ k_) := by
 obtain ⟨⟨d, u⟩, hs, he⟩ := Option.bind_eq_some_iff.mp h
 simp only [Option.some.injEq, Prod.mk.injEq] at he
 obtain ⟨rfl, rfl⟩ := he
 have hlh : lo < hi := by
  refine Int.not_le.1 fun hle => ?_
  have e : (l0.take hi.toNat).drop lo.toNat = [] := List.drop_eq_nil_of_le (by rw [List.length_take]; omega)
  rw [e] at hs
  unfold N1step.f at hs
  rw [if_pos (Int.natCast_nonneg _), if_neg (by simp)] at hs
  cases hs
 obtain ⟨g, cap, hv, _, _, _⟩ := Kd.R_form ho0 (by omega)
 injection hv with hA' _ hcap
 subst hA'; subst hcap
 have hcl := (Kd.R_reads' ho0).2.1
 have ewin : ((l0.take hi.toNat).drop lo.toNat).length = hi.toNat - lo.toNat := by rw [List.length_drop, List.length_take]; omega
 have epre : (l0.take lo.toNat).length = lo.toNat := by rw [List.length_take]; omega
 have eall : l0.take lo.toNat ++ (l0.take hi.toNat).drop lo.toNat ++ l0.drop hi.toNat = l0 := by
  have e1 : l0.take lo.toNat = (l0.take hi.toNat).take lo.toNat := by rw [List.take_take, Nat.min_eq_left (by omega)]
  rw [e1, List.take_append_drop, List.take_append_drop]
 have hW : Kd.W (l0.take lo.toNat) (l0.drop hi.toNat) (Kd.int .u32) 80 w w0.heap.size P0_ (.slice (some ⟨g, lo.toNat, none⟩) ((l0.take hi.toNat).drop lo.toNat).length (c0 - lo.toNat)) ((l0.take hi.toNat).drop lo.toNat) :=
  ⟨fun k hk => ho0.1 k (by simpa [Value.ownBlock] using hk), g, c0, by rw [eall]; exact ho0, by rw [epre]⟩
 have hAc : Ac = some ⟨g, lo.toNat, none⟩ := by
  rw [hA, if_neg (by omega), Nat.mul_one, Option.map_some, add_plain]
 rw [hAc, hn, hcc, ← ewin]
 refine (N1step.calls k _ _ P0_ _ _ A1 c1 l1 d u w0 w hB hW hr1 hc1 hs).mono ?_
 rintro e w' ⟨rfl, ⟨hok, g', cap', hR, hv⟩, hb, hk⟩
 injection hv with hA2 hn2 hc2
 injection hA2 with hA2
 injection hA2 with hg _
 subst hg
 refine ⟨rfl, ?_, hb, hk⟩
 have e2 : (l0.take lo.toNat ++ u ++ l0.drop hi.toNat).length = l0.length := by
  rw [← eall]
  simp only [List.length_append, ← hn2]
  simp only [← List.length_append, eall]
 have e3 : cap' = c0 := by
  have := (Kd.R_reads' hR).2.1
  rw [e2] at this
  rw [epre] at hc2
  omega
 rw [e2, e3] at hR
 exact hR
end Go.Proofs.YtggfilmdfpmbmaaGreatDoor.QN
end
section
namespace Go.Proofs.YtggfilmdfpmbmaaGreatDoor.QN
open Go.RowKit Go.Proofs.YtggfilmdfpmbmaaGreatDoorW.PrintWords Go.Proofs.YtggfilmdfpmbmaaGreatDoorW.PrintLast Go.Proofs.YtggfilmdfpmbmaaGreatDoorW.PrintMore
attribute [local go_sem] max2_int min2_int max_two min_two max_three min_three max_four min_four
set_option linter.unusedVariables false
set_option linter.unusedSimpArgs false
set_option maxHeartbeats 8000000
set_option maxRecDepth 100000
def N1unshift.l0 : Nat → List Int → Int → List Int → Int → Int → Option (List Int)
 | 0, _, _, _, _, _ => none
 | k + 1, x0, x1, x5, x12, x13 => if x13 < x12 then (if 0 ≤ x13 then (if x13 < (x0.length : Int) then (if (wrap64 (x13 + 1)) < (x0.length : Int) then (if 0 ≤ (wrap64 (x13 + 1)) then (if 0 ≤ x1 then (if x1 ≤ 64 then (if x13 < (x5.length : Int) then (N1unshift.l0 k x0 x1 (x5.set (x13 : Int).toNat (((Go.bits .or .u64 (IntKind.u64.wrap (rd x0 x13)) (IntKind.u64.wrap ((IntKind.u64.wrap (rd x0 (wrap64 (x13 + 1)))) * 4294967296))) / 2 ^ x1.toNat) % 4294967296)) x12 (wrap64 (x13 + 1))) else (none)) else (none)) else (none)) else (none)) else (if 0 ≤ x1 then (if x1 ≤ 64 then (if x13 < (x5.length : Int) then (N1unshift.l0 k x0 x1 (x5.set (x13 : Int).toNat (((IntKind.u64.wrap (rd x0 x13)) / 2 ^ x1.toNat) % 4294967296)) x12 (wrap64 (x13 + 1))) else (none)) else (none)) else (none))) else (none)) else (none)) else ((N1limbs_trim.f k x5).bind fun t178 => (some t178))
def N1unshift.f (k : Nat) (l0 : List Int) (a1 : Int) : Option (List Int) := if 0 ≤ (l0.length : Int) then (if ((l0.length : Int) : Int).toNat ≤ 70368744177664 then (N1unshift.l0 k l0 a1 (List.replicate ((l0.length : Int) : Int).toNat 0) (l0.length : Int) 0) else (none)) else (none)
theorem N1unshift.calls (k : Nat) (A0 : Option Addr) (c0 : Nat) (l0 : List Int) (a1 : Int) (r : List Int) (w : World) (hr0 : Kd.C (Kd.int .u32) w A0 l0.length l0) (hc0 : l0.length ≤ c0) (H : N1unshift.f k l0 a1 = some r) :
 Calls Tryz.prog 93 #[.slice A0 l0.length c0, .int .u64 a1] w fun e w' => ∃ v0_ : Value, e = .returned (v0_) ∧ Kd.V (Kd.int .u32) 80 w' w.heap.size (fun k_ => (w.heap.size ≤ k_)) v0_ r ∧ Below w.heap.size w w' := by
 have HR0 := Aside0.mk hr0
 have HC0 := Aside0.mk hc0
 clear hr0 hc0
 have HB := Aside0.mk (Below.refl w.heap.size w)
 unfold N1unshift.f at H
 replace ⟨c1b0, c1b1, H⟩ := iteE H
 replace ⟨c2b0, c2b1, H⟩ := iteE H
 generalize yh1 : (List.replicate ((l0.length : Int) : Int).toNat 0 : List Int) = y1 at H
 have Y1 := Aside0.mk yh1.symm; clear yh1
 have H' := Aside0.mk H
 clear H
 go_enter Tryz.func93, Tryz.ntmps93
 go_wp2_with ((with_reducible refine gate_dst (N := 10) rfl ?_); refine Kd.R_make (Kd.int .u32) _ 80 rfl (N := 10) rfl 78 _ _ rfl (l0.length : Int) rfl rfl Tryz.underlying78 (.int .u32 0) 4 info80 rfl (by decide) (by omega) 0 (ok := fun _ => True) (okp := fun _ => True) rfl (fun _ hk => hk) trivial (of_decide_eq_true zq0) (Nat.le_trans (Nat.mul_le_mul_right _ (of_decide_eq_true zq0 : (l0.length : Int).toNat ≤ 70368744177664)) (by omega)) (Below.refl _ _) (Nat.le_refl _) ?_; intro v1 w2 ho6 hb hg_ hnew_; clear hg_ hnew_; (first | rw [← Y1.out] at ho6 | (simp only [Int.reduceToNat] at ho6; rw [← Y1.out] at ho6)); have O1 := Aside0.mk (Kd.R_lower (Kd.R_newM (M := fun k_ => (w.heap.size ≤ k_)) ho6 (below_size zH) (fun k_ h_ => h_)) (below_size zH)); replace HB := sB hb; clear hb ho6)
 go_loopg [13] k (fun kq v2 w' => ∃ (x1 : List Int) (x2 : Int), v2 = .int .i64 x2 ∧ Aside0 (N1unshift.l0 kq l0 a1 x1 (l0.length : Int) x2 = some r) ∧ Aside0 (kq ≤ k) ∧ Aside0 (Kd.R (Kd.int .u32) 80 w' w.heap.size (fun k_ => (w.heap.size ≤ k_)) v1 x1) ∧ Aside0 (Below w.heap.size w w'))
 case atStart => exact ⟨(y1), (0), zq1, H', ⟨Nat.le_refl _⟩, ⟨zq20⟩, ⟨zH⟩⟩
 case round =>
  clear H'
  obtain ⟨x1, x2, rfl, HA, HK1, HO_5, HB⟩ := hrel
  cases gk with
  | zero => exact absurd HA.out (by simp [N1unshift.l0])
  | succ k1 =>
   have H := HA.out
   clear HA
   simp only [N1unshift.l0] at H
   replace H := iL H
   rcases H with ⟨c3b0, H⟩ | ⟨c3b0, H⟩
   ·replace ⟨c4b0, H⟩ := iteD H
    replace ⟨c5b0, H⟩ := iteD H
    replace H := iL H
    rcases H with ⟨c6b0, H⟩ | ⟨c6b0, H⟩
    ·obtain ⟨j1, jh1, jh1w⟩ := jI (x2 + 1)
     first | rw [jh1] at H | simp only [jh1] at H
     (try rw [jh1] at c6b0)
     replace ⟨c7b0, H⟩ := iteD H
     replace ⟨c8b0, c8b1, H⟩ := iteE H
     replace ⟨c9b0, c9b1, H⟩ := iteE H
     replace ⟨c10b0, H⟩ := iteD H
     generalize yh2 : (x1.set (x2 : Int).toNat (((Go.bits .or .u64 (IntKind.u64.wrap (rd l0 x2)) (IntKind.u64.wrap ((IntKind.u64.wrap (rd l0 (j1))) * 4294967296))) / 2 ^ a1.toNat) % 4294967296) : List Int) = y2 at H
     have Y2 := Aside0.mk yh2.symm; clear yh2
     have H' := Aside0.mk H
     clear H
     obtain ⟨ad1, e1, hx1, p1, q1⟩ := atI HR0.out x2
     cases e1
     (try replace hx1 := hM HB hx1)
     obtain ⟨ad2, e2, hx2, p2, q2⟩ := atI HR0.out (j1)
     obtain rfl : ad1 = ad2 := (by injection e2)
     (try replace hx2 := hM HB hx2)
     have p3 : 0 ≤ (x2 : Int) := of_decide_eq_true zq0
     have q3 : (x2 : Int) < ((x1.length : Int) : Int) := of_decide_eq_true zq0
     obtain ⟨go1, d1, u1, g1, gl16, cl16, HG16⟩ := Kd.R_form HO_5.out (by omega)
     (first | cases u1 | (injection u1 with ea_ en_ ec_; (first | subst ea_ | (injection ea_ with ea_; subst ea_)); subst ec_; clear en_))
     have GB1 := Aside0.mk g1
     have GG16 := Aside0.mk HG16
     clear g1 gl16 HG16
     obtain ⟨hx3, hf16_0⟩ := Kd.R_celln 0 HO_5.out (x2 : Int) p3 q3
     (try simp only [Go.IntWalk.toNatUp] at hx3 hf16_0)
     replace p3 := eq_true p3
     replace q3 := eq_true q3
     have HP1 := Kd.R_putg HO_5.out (x2 : Int) (((Go.bits .or .u64 (IntKind.u64.wrap (rd l0 x2)) (IntKind.u64.wrap ((IntKind.u64.wrap (rd l0 (j1))) * 4294967296))) / 2 ^ a1.toNat) % 4294967296)
     go_wp2_with (refine stR 80 41 HP1 Y2 fun w3 hw hg hp_ => ?_; clear HP1; replace HO_5 := Aside0.mk (hp_); replace HB := bS2 hw HB GB1; clear hg hw hp_)
     go_roundg k1
     case measure => have := HK1.out; omega
     case rel => exact ⟨(y2), (j1), zq15, H', ⟨zq4⟩, ⟨zR⟩, ⟨zH⟩⟩
    ·replace ⟨c7b0, c7b1, H⟩ := iteE H
     replace ⟨c8b0, c8b1, H⟩ := iteE H
     replace ⟨c9b0, H⟩ := iteD H
     generalize yh2 : (x1.set (x2 : Int).toNat (((IntKind.u64.wrap (rd l0 x2)) / 2 ^ a1.toNat) % 4294967296) : List Int) = y2 at H
     have Y2 := Aside0.mk yh2.symm; clear yh2
     have H' := Aside0.mk H
     clear H
     obtain ⟨ad1, e1, hx1, p1, q1⟩ := atI HR0.out x2
     cases e1
     (try replace hx1 := hM HB hx1)
     have p2 : 0 ≤ (x2 : Int) := of_decide_eq_true zq0
     have q2 : (x2 : Int) < ((x1.length : Int) : Int) := of_decide_eq_true zq0
     obtain ⟨go1, d1, u1, g1, gl22, cl22, HG22⟩ := Kd.R_form HO_5.out (by omega)
     (first | cases u1 | (injection u1 with ea_ en_ ec_; (first | subst ea_ | (injection ea_ with ea_; subst ea_)); subst ec_; clear en_))
     have GB1 := Aside0.mk g1
     have GG22 := Aside0.mk HG22
     clear g1 gl22 HG22
     obtain ⟨hx2, hf22_0⟩ := Kd.R_celln 0 HO_5.out (x2 : Int) p2 q2
     (try simp only [Go.IntWalk.toNatUp] at hx2 hf22_0)
     replace p2 := eq_true p2
     replace q2 := eq_true q2
     have HP1 := Kd.R_putg HO_5.out (x2 : Int) (((IntKind.u64.wrap (rd l0 x2)) / 2 ^ a1.toNat) % 4294967296)
     go_wp2_with (refine stR 80 41 HP1 Y2 fun w3 hw hg hp_ => ?_; clear HP1; replace HO_5 := Aside0.mk (hp_); replace HB := bS2 hw HB GB1; clear hg hw hp_)
     go_roundg k1
     case measure => have := HK1.out; omega
     case rel => exact ⟨(y2), (wrap64 (x2 + 1)), zq1, H', ⟨zq4⟩, ⟨zR⟩, ⟨zH⟩⟩
   ·replace ⟨t1, A1, H⟩ := bS H
    obtain rfl := sI H
    obtain ⟨P1, d1, u1⟩ := Kd.R_slice HO_5.out
    subst u1
    go_wp2_with (refine gR 44 Tryz.func79 (N1limbs_trim.calls k1 (fun k_ => some k_ = (.slice P1 x1.length d1 : Value).ownBlock) _ _ x1 t1 _ ?side1 A1.out) fun v3 w3 ho0 hb => ?_; (case side1 => exact Kd.R_V (Kd.R_tight rfl (HO_5.out))); have O2 := Aside0.mk (Kd.V_lower (Kd.V_mono (ok' := fun k_ => (w.heap.size ≤ k_)) ho0 (fun k_ hk_ => Or.elim hk_ (fun hs_ => ((HO_5.out).1 k_ hs_.symm)) (fun hn_ => (Nat.le_trans (below_size zH) hn_)))) (below_size zH)); replace HO_5 := rB HO_5 hb; replace HB := sB hb; (try clear hb); (try clear ho0))
    go_ret
    exact ⟨_, zE, zV, zH⟩
def N1divide.l0 : Nat → Int → Int → List Int → List Int → List Int → Int → Option (List Int × List Int)
 | 0, _, _, _, _, _, _ => none
 | k + 1, x8, x9, x10, x11, x12, x13 => if x13 ≥ 0 then (if 0 ≤ x13 then (if x13 ≤ (wrap64 ((wrap64 (x13 + x9)) + 1)) then (if (wrap64 ((wrap64 (x13 + x9)) + 1)) ≤ (x11.length : Int) then ((N1stepc.f k x11 x13 (wrap64 ((wrap64 (x13 + x9)) + 1)) x10).bind fun bt204 => (if x13 < (x12.length : Int) then (N1divide.l0 k x8 x9 x10 bt204.2 (x12.set (x13 : Int).toNat bt204.1) (wrap64 (x13 - 1))) else (none))) else (none)) else (none)) else (none)) else ((N1limbs_trim.f k x12).bind fun t207 => (if 0 ≤ x9 then (if x9 ≤ (x11.length : Int) then ((N1unshift.f k (x11.take (x9 : Int).toNat) x8).bind fun t214 => (some (t207, t214))) else (none)) else (none)))
def N1divide.f (k : Nat) (l0 l1 : List Int) : Option (List Int × List Int) := (N1compare.f k l0 l1).bind fun t181 => (if t181 < 0 then (some (([] : List Int), l0)) else (if (l1.length : Int) = 1 then (if 0 < (l1.length : Int) then ((N1divideSmall.f k l0 (rd l1 0)).bind fun bt183 => ((N1limbs_trim.f k (([bt183.2] : List Int))).bind fun t190 => (some (bt183.1, t190)))) else (none)) else (if 0 ≤ (wrap64 ((l1.length : Int) - 1)) then (if (wrap64 ((l1.length : Int) - 1)) < (l1.length : Int) then ((bits_LeadingZeros32.f (rd l1 (wrap64 ((l1.length : Int) - 1)))).bind fun t194 => ((N1shift.f k l1 (IntKind.u64.wrap (t194)) (l1.length : Int)).bind fun t195 => ((N1shift.f k l0 (IntKind.u64.wrap (t194)) (wrap64 ((l0.length : Int) + 1))).bind fun t198 => (if 0 ≤ (wrap64 ((wrap64 ((l0.length : Int) - (l1.length : Int))) + 1)) then (if (wrap64 ((wrap64 ((l0.length : Int) - (l1.length : Int))) + 1) : Int).toNat ≤ 70368744177664 then ((some (List.replicate (wrap64 ((wrap64 ((l0.length : Int) - (l1.length : Int))) + 1) : Int).toNat 0 : List Int)).bind fun y201 => (N1divide.l0 k (IntKind.u64.wrap (t194)) (l1.length : Int) t195 t198 y201 (wrap64 ((y201.length : Int) - 1)))) else (none)) else (none))))) else (none)) else (none))))
def N1divide.T15 : Bool × List (List Nat × List Nat) := (true, [([], []), ([0], [0]), ([], []), ([], []), ([2, 3], [2, 3]), ([], []), ([4, 5, 1], [4, 5]), ([1, 6, 0, 1], [1]), ([6, 7, 0, 1, 2, 3, 4, 5, 6, 7], [6])])
def N1divide.B15 : List Nat := [0, 1, 0, 0, 12, 0, 63, 127, 255]
theorem N1divide.tab15 : rtab .any (opsOf Tryz.f78 15) = N1divide.T15 := by kernel_rfl
theorem N1divide.bits15 : waitsOk N1divide.T15.2 N1divide.B15 = true := by kernel_rfl
theorem N1divide.calls (k : Nat) (P0_ : Nat → Prop) (A0 : Option Addr) (c0 : Nat) (l0 : List Int) (A1 : Option Addr) (c1 : Nat) (l1 r1 r2 : List Int) (w : World) (hs0 : Kd.V (Kd.int .u32) 80 w w.heap.size (fun k_ => P0_ k_) (.slice A0 l0.length c0) l0) (hr1 : Kd.C (Kd.int .u32) w A1 l1.length l1) (hc1 : l1.length ≤ c1) (H : N1divide.f k l0 l1 = some (r1, r2)) :
 Calls Tryz.prog 78 #[.slice A0 l0.length c0, .slice A1 l1.length c1] w fun e w' => ∃ v0_ v1_ : Value, e = .returned (.tuple #[v0_, v1_]) ∧ Kd.V (Kd.int .u32) 80 w' w.heap.size (fun k_ => (P0_ k_ ∨ w.heap.size ≤ k_)) v0_ r1 ∧ Kd.V (Kd.int .u32) 80 w' w.heap.size (fun k_ => (P0_ k_ ∨ w.heap.size ≤ k_)) v1_ r2 ∧ Below w.heap.size w w' := by
 have O1 := Aside0.mk (show Kd.V (Kd.int .u32) 80 w w.heap.size (fun k_ => (P0_ k_ ∨ w.heap.size ≤ k_)) (.slice A0 l0.length c0) l0 from Kd.V_mono hs0 (fun k_ hk => .inl hk))
 have HR1 := Aside0.mk hr1
 have HC1 := Aside0.mk hc1
 clear hr1 hc1
 have HB := Aside0.mk (Below.refl w.heap.size w)
 unfold N1divide.f at H
 replace ⟨t1, A2, H⟩ := bS H
 by_cases c2 : t1 < 0
 ·rw [if_pos c2] at H
  have c2b0 := decide_eq_true c2
  clear c2
  simp only [Option.some.injEq, Prod.mk.injEq] at H
  obtain ⟨rfl, rfl⟩ := H
  go_enter Tryz.func78, Tryz.ntmps78
  go_wp2_with (refine gD 16 Tryz.func75 (N1compare.calls k _ _ l0 _ _ l1 t1 _ ?side1 ?side2 ?side3 ?side4 A2.out) fun nd => ?_; (case side1 => exact sC (Kd.V_reads' O1.out).2.2); (case side2 => exact (Kd.V_reads' O1.out).2.1); (case side3 => exact sC HR1.out); (case side4 => exact HC1.out))
  go_ret2
  exact ⟨_, _, zE, Kd.V_mono (Kd.R_V zq34) (fun k_ hk => by first | exact ⟨(.inr (hk.1)), hk.2⟩ | exact (.inr (hk))), zV, zH⟩
 ·rw [if_neg c2] at H
  have c2b0 := decide_eq_false c2
  clear c2
  by_cases c3 : (l1.length : Int) = 1
  ·rw [if_pos c3] at H
   have c3b0 := beq_iff_eq.mpr c3
   have c3b1 : ((l1.length : Int) != 1) = false := bne_eq_false_iff_eq.mpr c3
   clear c3
   replace H := of_ite H
   obtain ⟨c4, H⟩ := H
   have c4b0 := decide_eq_true c4
   have c4b1 : decide (0 < l1.length) = true := decide_eq_true (by omega)
   clear c4
   replace ⟨⟨t2, t3⟩, A3, H⟩ := bS H
   (try dsimp only at H)
   generalize yh1 : (([t3] : List Int) : List Int) = y1 at H
   have Y1 := Aside0.mk yh1.symm; clear yh1
   replace ⟨t4, A4, H⟩ := bS H
   simp only [Option.some.injEq, Prod.mk.injEq] at H
   obtain ⟨rfl, rfl⟩ := H
   go_enter Tryz.func78, Tryz.ntmps78
   go_wp2_with (first | (refine gD 16 Tryz.func75 (N1compare.calls k _ _ l0 _ _ l1 t1 _ ?side1 ?side2 ?side3 ?side4 A2.out) fun nd => ?_; (case side1 => exact sC (Kd.V_reads' O1.out).2.2); (case side2 => exact (Kd.V_reads' O1.out).2.1); (case side3 => exact sC HR1.out); (case side4 => exact HC1.out); have p1 : 0 ≤ (0 : Int) := (by omega); have q1 : 0 < (l1.length : Int) := of_decide_eq_true zq0; obtain ⟨ad1, e1, hx1⟩ := Kd.at_int HR1.out 0 p1 q1; cases e1; have qi182 : (0 < l1.length) = True := eq_true (by omega); (try rw [show ((0 : Int)).toNat = 0 from rfl] at hx1); (try rw [Addr.add_zero'] at hx1); replace p1 := eq_true p1; replace q1 := eq_true q1) | (refine gR 27 Tryz.func89 (N1divideSmall.calls _ _ _ _ _ _ _ _ ?side1 ?side2 A3.out) fun v2 w2 ho0 hb => ?_; (case side1 => exact sC (Kd.V_reads' O1.out).2.2); (case side2 => exact (Kd.V_reads' O1.out).2.1); have O2 := Aside0.mk (Kd.V_lower (Kd.V_mono (ok' := fun k_ => (P0_ k_ ∨ w.heap.size ≤ k_)) ho0 (fun k_ hk_ => (.inr (Nat.le_trans (below_size zH) hk_)))) (below_size zH)); replace O1 := vB O1 hb; replace HB := sB hb; (try clear hb); (try clear ho0)) | ((with_reducible refine gate_dst (N := 32) rfl ?_); refine Kd.R_lit (Kd.int .u32) _ 80 ?hg (N := 32) ?hd (xs := ([t3] : List Int)) (inner := [.int .u32 t3]) (ok := fun _ => True) (okp := fun _ => True) ?hr ?hp (fun _ hk => hk) trivial (Below.refl _ _) (Nat.le_refl _) (by simp) ?_; (case hd => rfl); (case hg => rfl); (case hr => first | (go_simp; done) | (go_simp; rfl)); (case hp => exact (Reps.one (show Kd.M (Kd.int .u32) _ _ _ t3 [.int .u32 t3] from rfl) (Reps.none _ _))); intro v3 w3 ho11 hb hg_ hnew_; clear hg_ hnew_; (first | rw [← Y1.out] at ho11 | (simp only [Int.reduceToNat] at ho11; rw [← Y1.out] at ho11)); have O3 := Aside0.mk (Kd.R_lower (Kd.R_newM (M := fun k_ => (w.heap.size ≤ k_)) ho11 (below_size zH) (fun k_ h_ => h_)) (below_size zH)); replace O1 := Aside0.mk (Kd.V_elder' zq16 (Kd.R_base ho11) hb); replace O2 := Aside0.mk (Kd.V_elder' zq28 (Kd.R_base ho11) hb); replace HB := sB hb; clear hb ho11; obtain ⟨P1, d1, u1⟩ := Kd.R_slice O3.out; subst u1) | (refine gR 33 Tryz.func79 (N1limbs_trim.calls k (fun k_ => some k_ = (.slice P1 y1.length d1 : Value).ownBlock) _ _ y1 t4 _ ?side1 A4.out) fun v4 w4 ho0 hb => ?_; (case side1 => exact Kd.R_V (Kd.R_tight rfl (O3.out))); have O4 := Aside0.mk (Kd.V_lower (Kd.V_mono (ok' := fun k_ => (P0_ k_ ∨ w.heap.size ≤ k_)) ho0 (fun k_ hk_ => Or.elim hk_ (fun hs_ => (.inr (((O3.out).1 k_ hs_.symm).1))) (fun hn_ => (.inr (Nat.le_trans (below_size zH) hn_))))) (below_size zH)); replace O1 := vB O1 hb; replace O2 := vB O2 hb; replace O3 := rB O3 hb; replace HB := sB hb; (try clear hb); (try clear ho0)))
   go_ret2
   exact ⟨_, _, zE, by (with_reducible repeat (first | apply Kd.V_alloc | apply Kd.V_drewN | apply Kd.V_drew)); exact Kd.V_mono O2.out (fun _ hk => hk.1), zV, zH⟩
  ·rw [if_neg c3] at H
   have c3b0 := beq_eq_false_iff_ne.mpr c3
   have c3b1 := bne_iff_ne.mpr c3
   obtain ⟨j1, jh1, jh1w⟩ := jI ((l1.length : Int) - 1)
   first | rw [jh1] at H | simp only [jh1] at H
   (try rw [jh1] at A2)
   replace ⟨c4b0, H⟩ := iteD H
   replace ⟨c5b0, H⟩ := iteD H
   replace ⟨t2, A3, H⟩ := bS H
   replace ⟨t3, A4, H⟩ := bS H
   replace ⟨t4, A5, H⟩ := bS H
   obtain ⟨j2, jh2, jh2w⟩ := jI ((wrap64 ((l0.length : Int) - (l1.length : Int))) + 1)
   first | rw [jh2] at H | simp only [jh2] at H
   (try rw [jh2] at A2)
   (try rw [jh2] at A3)
   (try rw [jh2] at A4)
   (try rw [jh2] at A5)
   replace ⟨c6b0, c6b1, H⟩ := iteE H
   replace ⟨c7b0, c7b1, H⟩ := iteE H
   replace ⟨y1, Y1, H⟩ := bY H
   have H' := Aside0.mk H
   clear H
   go_enter Tryz.func78, Tryz.ntmps78
   go_wp2_with (first | (refine gD 16 Tryz.func75 (N1compare.calls k _ _ l0 _ _ l1 t1 _ ?side1 ?side2 ?side3 ?side4 A2.out) fun nd => ?_; (case side1 => exact sC (Kd.V_reads' O1.out).2.2); (case side2 => exact (Kd.V_reads' O1.out).2.1); (case side3 => exact sC HR1.out); (case side4 => exact HC1.out); have p1 : 0 ≤ ((j1) : Int) := of_decide_eq_true zq0; have q1 : (j1) < (l1.length : Int) := of_decide_eq_true zq0; obtain ⟨ad1, e1, hx1⟩ := Kd.at_int HR1.out (j1) p1 q1; cases e1; replace p1 := eq_true p1; replace q1 := eq_true q1) | ((with_reducible refine gate_callee (f := 90) rfl ?_); refine goesL_ (some 40) rfl rfl Tryz.func90 (by kernel_rfl) rfl #[.int .u32 (rd l1 (j1))] rfl (by (try simp only [List.map_toArray, List.map_cons, List.map_nil]); first | done | (simp only [jh1]; rfl) | rfl | (simp only [List.length_drop, List.length_take]; rfl)) ?_; (with_reducible refine (bits_LeadingZeros32.calls (h := A3.out) ..).mono ?_); rintro e w' ⟨rfl, ⟨nd, rfl⟩⟩; refine ⟨_, rfl, ?_⟩) | (refine gR 47 Tryz.func91 (N1shift.calls _ _ _ _ _ _ _ _ ?side1 ?side2 A4.out) fun v2 w2 ho0 hb => ?_; (case side1 => exact sC HR1.out); (case side2 => exact HC1.out); have O2 := Aside0.mk (Kd.R_lower (Kd.R_newM (M := fun k_ => (w.heap.size ≤ k_)) ho0 (below_size zH) (fun k_ h_ => h_)) (below_size zH)); replace O1 := Aside0.mk (Kd.V_elder' zq16 (Kd.R_base ho0) hb); replace HB := sB hb; (try clear hb); (try clear ho0)) | (refine gR 53 Tryz.func91 (N1shift.calls _ _ _ _ _ _ _ _ ?side1 ?side2 A5.out) fun v3 w3 ho0 hb => ?_; (case side1 => exact sC (Kd.V_reads' O1.out).2.2); (case side2 => exact (Kd.V_reads' O1.out).2.1); have O3 := Aside0.mk (Kd.R_lower (Kd.R_new' (Kd.R_newM (M := fun k_ => (w.heap.size ≤ k_)) ho0 (below_size zH) (fun k_ h_ => h_)) (Kd.R_lt zq3)) (below_size zH)); replace O1 := Aside0.mk (Kd.V_elder' zq16 (Kd.R_base ho0) hb); replace O2 := Aside0.mk (Kd.R_elder' zq3 (Kd.R_base ho0) hb); replace HB := sB hb; (try clear hb); (try clear ho0)) | ((with_reducible refine gate_dst (N := 59) rfl ?_); refine Kd.R_make (Kd.int .u32) _ 80 rfl (N := 59) rfl 78 _ _ rfl j2 rfl rfl Tryz.underlying78 (.int .u32 0) 4 info80 rfl (by decide) (by omega) 0 (ok := fun _ => True) (okp := fun _ => True) rfl (fun _ hk => hk) trivial (of_decide_eq_true zq0) (Nat.le_trans (Nat.mul_le_mul_right _ (of_decide_eq_true zq0 : j2.toNat ≤ 70368744177664)) (by omega)) (Below.refl _ _) (Nat.le_refl _) ?_; intro v4 w4 ho26 hb hg_ hnew_; clear hg_ hnew_; (first | rw [← Y1.out] at ho26 | (simp only [Int.reduceToNat] at ho26; rw [← Y1.out] at ho26)); have O4 := Aside0.mk (Kd.R_lower (Kd.R_new' (Kd.R_new' (Kd.R_newM (M := fun k_ => (w.heap.size ≤ k_)) ho26 (below_size zH) (fun k_ h_ => h_)) (Kd.R_lt zq3)) (Kd.R_lt zq8)) (below_size zH)); replace O1 := Aside0.mk (Kd.V_elder' zq16 (Kd.R_base ho26) hb); replace O2 := Aside0.mk (Kd.R_elder' zq3 (Kd.R_base ho26) hb); replace O3 := Aside0.mk (Kd.R_elder' zq8 (Kd.R_base ho26) hb); replace HB := sB hb; clear hb ho26; obtain ⟨P1, d1, u1⟩ := Kd.R_slice O4.out; subst u1))
   go_loopg [13] k (fun kq v5 w' => ∃ (x1 : List Int) (x2 : List Int) (x3 : List Int) (x4 : Int), v5 = .int .i64 x4 ∧ Aside0 (N1divide.l0 kq (IntKind.u64.wrap (t2)) (l1.length : Int) x1 x2 x3 x4 = some (r1, r2)) ∧ Aside0 (kq ≤ k) ∧ Aside0 (Kd.R (Kd.int .u32) 80 w' w.heap.size (fun k_ => (w.heap.size ≤ k_) ∧ some k_ ≠ (v3 : Value).ownBlock ∧ some k_ ≠ ((.slice P1 y1.length d1) : Value).ownBlock) v2 x1) ∧ Aside0 (Kd.R (Kd.int .u32) 80 w' w.heap.size (fun k_ => (w.heap.size ≤ k_) ∧ some k_ ≠ (v2 : Value).ownBlock ∧ some k_ ≠ ((.slice P1 y1.length d1) : Value).ownBlock) v3 x2) ∧ Aside0 (Kd.R (Kd.int .u32) 80 w' w.heap.size (fun k_ => (w.heap.size ≤ k_) ∧ some k_ ≠ (v2 : Value).ownBlock ∧ some k_ ≠ (v3 : Value).ownBlock) (.slice P1 y1.length d1) x3) ∧ Aside0 (Below w.heap.size w w'))
   case atStart => exact ⟨(t3), (t4), (y1), (wrap64 ((y1.length : Int) - 1)), zq1, H', ⟨Nat.le_refl _⟩, ⟨by (with_reducible repeat (first | apply Kd.R_alloc | apply Kd.R_drewN | apply Kd.R_drew)); exact Kd.R_mono O2.out (fun _ hk => ⟨hk.1.1.1, ⟨hk.1.2, hk.2⟩⟩)⟩, ⟨by (with_reducible repeat (first | apply Kd.R_alloc | apply Kd.R_drewN | apply Kd.R_drew)); exact Kd.R_mono O3.out (fun _ hk => ⟨hk.1.1.1, ⟨hk.1.2, hk.2⟩⟩)⟩, ⟨by (with_reducible repeat (first | apply Kd.R_alloc | apply Kd.R_drewN | apply Kd.R_drew)); exact Kd.R_mono O4.out (fun _ hk => ⟨hk.1.1.1, ⟨hk.1.2, hk.2⟩⟩)⟩, ⟨zH⟩⟩
   case round =>
    clear H'
    (try clear qi1); (try clear c8); (try clear p2); (try clear c2); (try clear c2b0); (try clear c3); (try clear c3b0); (try clear c3b1); (try clear c9); (try clear c9b0); (try clear c9b1); (try clear p3); (try clear c10); (try clear c11); (try clear c12); (try clear c4); (try clear c4b0); (try clear c5); (try clear c5b0); (try clear p4); (try clear q2); (try clear hx2); (try clear qi18); (try clear p5); (try clear q3); (try clear hx3); (try clear c6); (try clear c6b0); (try clear c6b1); (try clear c7); (try clear c7b0); (try clear c7b1); (try clear hx4); (try clear hx1); (try clear p6); (try clear p1); (try clear q4); (try clear q1)
    obtain ⟨x1, x2, x3, x4, rfl, HA, HK1, HO_10, HO_11, HO_12, HB⟩ := hrel
    have hl12_1 := (Kd.R_reads' HO_12.out).1
    rw [hl12_1] at HO_12
    (try simp only [hl12_1])
    (try simp only [hl12_1] at HO_10)
    (try simp only [hl12_1] at HO_11)
    cases gk with
    | zero => exact absurd HA.out (by simp [N1divide.l0])
    | succ k1 =>
     have H := HA.out
     clear HA
     simp only [N1divide.l0] at H
     replace H := iL H
     rcases H with ⟨c13b0, H⟩ | ⟨c13b0, H⟩
     ·replace ⟨c14b0, c14b1, H⟩ := iteE H
      replace H := of_ite H
      obtain ⟨c15, H⟩ := H
      have c15b0 := eq_true c15
      have c15b1 := decide_eq_true c15
      replace H := of_ite H
      obtain ⟨c16, H⟩ := H
      have c16b0 := eq_true c16
      have c16b1 := decide_eq_true c16
      replace ⟨⟨t5, t6⟩, A6, H⟩ := bS H
      (try dsimp only at H)
      replace H := of_ite H
      obtain ⟨c17, H⟩ := H
      have c17b0 := decide_eq_true c17
      (try (have c33x0 := c17b0; simp only [hl12_1] at c33x0))
      clear c17
      generalize yh1 : (x3.set (x4 : Int).toNat t5 : List Int) = y2 at H
      have Y2 := Aside0.mk yh1.symm; clear yh1
      have H' := Aside0.mk H
      clear H
      obtain ⟨P2, d2, u2⟩ := Kd.R_slice HO_11.out
      subst u2
      obtain ⟨P3, d3, u3⟩ := Kd.R_slice HO_10.out
      subst u3
      obtain ⟨i0cq, hi0cq, _, hszcq, _⟩ := info_parts info80
      have hcutcq := cut_mid (P := Tryz.prog) 78 80 .i64 .i64 Tryz.underlying78 hi0cq 1 hszcq P2 x2.length d2 x4 (wrap64 ((wrap64 (x4 + (l1.length : Int))) + 1)) (of_eq_true c14b0) (of_eq_true c15b0) (of_eq_true c16b0) (Kd.R_reads' HO_11.out).2.1
      obtain ⟨Acq, hAcq_⟩ : ∃ z_, z_ = (if d2 = (x4 : Int).toNat then P2 else (P2 : Option Addr).map (·.add ((x4 : Int).toNat * 1))) := ⟨_, rfl⟩
      obtain ⟨ncq, hncq_⟩ : ∃ z_, z_ = ((wrap64 ((wrap64 (x4 + (l1.length : Int))) + 1)) : Int).toNat - (x4 : Int).toNat := ⟨_, rfl⟩
      obtain ⟨ccq, hccq_⟩ : ∃ z_, z_ = d2 - (x4 : Int).toNat := ⟨_, rfl⟩
      rw [← hAcq_, ← hncq_, ← hccq_] at hcutcq
      have hAcq := Aside0.mk hAcq_
      have hncq := Aside0.mk hncq_
      have hccq := Aside0.mk hccq_
      have h0cq := Aside0.mk (of_eq_true c14b0)
      have hhcq := Aside0.mk (of_eq_true c16b0)
      clear hAcq_ hncq_ hccq_ hi0cq hszcq
      go_wp2_with (first | (refine goesLA 77 Tryz.func92 #[.slice Acq ncq ccq, .slice P3 x1.length d3] ?_; (with_reducible refine (N1stepc.calls k1 (fun k_ => some k_ = (.slice P2 x2.length d2 : Value).ownBlock) P2 d2 x2 x4 (wrap64 ((wrap64 (x4 + (l1.length : Int))) + 1)) _ _ x1 t5 t6 w _ ?side1 ?side2 ?side3 ?side4 h0cq.out hhcq.out hAcq.out hncq.out hccq.out A6.out).mono ?_); (case side1 => repeat (first | (with_reducible first | exact HB.out | apply below_alloc | apply pw_below_drewN | apply below_drew1) | exact HB.out)); (case side2 => exact Kd.R_tight rfl HO_11.out); (case side3 => exact Kd.C_kept_own (HO_10.out) (fun k_ hk_ hs_ => (hk_.2.1) hs_)); (case side4 => exact (Kd.R_reads' HO_10.out).2.1); rintro e w5 ⟨rfl, yh2, hb, hkp⟩; refine ⟨_, rfl, ?_⟩; replace HO_10 := Aside0.mk (Kd.R_mono (ok' := fun k_ => (w.heap.size ≤ k_) ∧ some k_ ≠ (.slice P2 x2.length d2 : Value).ownBlock ∧ some k_ ≠ (.slice P1 x3.length d1 : Value).ownBlock) (Kd.R_keptB (HO_10.out) hkp (fun k_ hk_ hs_ => (hk_.2.1) hs_)) (fun k_ hk_ => ⟨hk_.1.1, hk_.1.2.1, hk_.1.2.2⟩)); replace HO_11 := Aside0.mk (Kd.R_reok rfl yh2 (fun k_ e_ => HO_11.out.1 k_ e_)); replace HO_12 := Aside0.mk (Kd.R_mono (ok' := fun k_ => (w.heap.size ≤ k_) ∧ some k_ ≠ (.slice P3 x1.length d3 : Value).ownBlock ∧ some k_ ≠ (.slice P2 x2.length d2 : Value).ownBlock) (Kd.R_keptB (HO_12.out) hkp (fun k_ hk_ hs_ => (hk_.2.2) hs_)) (fun k_ hk_ => ⟨hk_.1.1, hk_.1.2.1, hk_.1.2.2⟩)); replace HB := Aside0.mk (hb); (try clear hb); (try clear hkp); (try clear yh2); have p7 : 0 ≤ (x4 : Int) := of_decide_eq_true zq0; have q5 : (x4 : Int) < ((x3.length : Int) : Int) := of_decide_eq_true zq0; obtain ⟨go1, d4, u4, g1, gl34, cl34, HG34⟩ := Kd.R_form HO_12.out (by omega); (first | cases u4 | (injection u4 with ea_ en_ ec_; (first | subst ea_ | (injection ea_ with ea_; subst ea_)); subst ec_; clear en_)); have GB1 := Aside0.mk g1; have GG34 := Aside0.mk HG34; clear g1 gl34 HG34; obtain ⟨hx5, hf34_0⟩ := Kd.R_celln 0 HO_12.out (x4 : Int) p7 q5; replace p7 := eq_true p7; replace q5 := eq_true q5; obtain ⟨hy38_, hz38_⟩ := Kd.R_celln 0 HO_12.out (x4 : Int) (of_decide_eq_true zq0) (of_decide_eq_true zq0); have HP1 := Kd.R_putg HO_12.out (x4 : Int) t5) | (refine stR 80 78 HP1 Y2 fun w6 hw hg hp_ => ?_; clear HP1; replace HO_10 := Aside0.mk (Kd.R_after (v := (.slice (some ⟨go1, 0, none⟩) x3.length d1)) (v1 := (.slice (some ⟨go1, 0, none⟩) x3.length d1)) (ok := (fun k_ => (w.heap.size ≤ k_) ∧ some k_ ≠ (.slice P2 x2.length d2 : Value).ownBlock)) (by (with_reducible repeat (first | apply Kd.R_alloc | apply Kd.R_drewN | apply Kd.R_drew)); exact Kd.R_mono HO_10.out (fun _ hk => ⟨⟨hk.1, hk.2.1⟩, hk.2.2⟩)) hg (.inl rfl)); replace HO_11 := Aside0.mk (Kd.R_after (v := (.slice (some ⟨go1, 0, none⟩) x3.length d1)) (v1 := (.slice (some ⟨go1, 0, none⟩) x3.length d1)) (ok := (fun k_ => (w.heap.size ≤ k_) ∧ some k_ ≠ (.slice P3 x1.length d3 : Value).ownBlock)) (by (with_reducible repeat (first | apply Kd.R_alloc | apply Kd.R_drewN | apply Kd.R_drew)); exact Kd.R_mono HO_11.out (fun _ hk => ⟨⟨hk.1, hk.2.1⟩, hk.2.2⟩)) hg (.inl rfl)); replace HO_12 := Aside0.mk (hp_); replace HB := bS2 hw HB GB1; clear hg hw hp_))
      (try simp only [← hl12_1])
      go_roundg k1
      case measure => have := HK1.out; omega
      case rel => exact ⟨(x1), (t6), (y2), (wrap64 (x4 - 1)), zq1, H', ⟨zq4⟩, ⟨by (try simp only [hl12_1]); (with_reducible repeat (first | apply Kd.R_alloc | apply Kd.R_drewN | apply Kd.R_drew)); exact Kd.R_mono HO_10.out (fun _ hk => ⟨hk.1.1, ⟨hk.1.2, hk.2⟩⟩)⟩, ⟨by (try simp only [hl12_1]); (with_reducible repeat (first | apply Kd.R_alloc | apply Kd.R_drewN | apply Kd.R_drew)); exact Kd.R_mono HO_11.out (fun _ hk => ⟨hk.1.1, ⟨hk.1.2, hk.2⟩⟩)⟩, ⟨by (try simp only [hl12_1]); (with_reducible repeat (first | apply Kd.R_alloc | apply Kd.R_drewN | apply Kd.R_drew)); exact HO_12.out⟩, ⟨zH⟩⟩
     ·replace ⟨t5, A6, H⟩ := bS H
      replace ⟨c14b0, c14b1, H⟩ := iteE H
      replace ⟨c15b0, c15b1, H⟩ := iteE H
      generalize yh1 : (x2.take ((l1.length : Int) : Int).toNat : List Int) = y2 at H
      have Y2 := Aside0.mk yh1.symm; clear yh1
      replace ⟨t6, A7, H⟩ := bS H
      simp only [Option.some.injEq, Prod.mk.injEq] at H
      obtain ⟨rfl, rfl⟩ := H
      try go_wp2
      replace HO_10 := rD HO_10
      replace HO_11 := rD HO_11
      replace HO_12 := rD HO_12
      replace HB := hD HB
      obtain ⟨P2, d2, u2⟩ := Kd.R_slice HO_11.out
      (first | subst u2 | (injection u2 with f1_ f2_ f3_; have f4_ := f1_.symm; have f5_ := f3_.symm; clear f1_ f2_ f3_; subst f4_; subst f5_))
      have q5 : ((l1.length : Int) : Int) ≤ ((x2.length : Int) : Int) := of_decide_eq_true zq0
      obtain ⟨i045, hi045, _, hsz45, _⟩ := info_parts info80
      have hroom45 : x2.length ≤ d2 := (Kd.R_reads' HO_11.out).2.1
      have hC45 : Kd.C (Kd.int .u32) _ P2 x2.length x2 := (Kd.R_reads' HO_11.out).2.2
      have hcut45 := cut_to (P := Tryz.prog) 78 80 .i64 Tryz.underlying78 hi045 P2 x2.length d2 (l1.length : Int) (of_decide_eq_true zq0) q5 hroom45
      have hr45 := Kd.C_take (m := ((l1.length : Int) : Int).toNat) hC45 (by omega)
      have yh2 : y2.length = ((l1.length : Int) : Int).toNat := (by rw [Y2.out, List.length_take]; omega)
      rw [← Y2.out] at hr45
      rw [← yh2] at hcut45
      have HR213 := Aside0.mk hr45
      have HC213 := Aside0.mk (show y2.length ≤ d2 from by omega)
      clear hr45 hC45 hroom45 hi045 hsz45
      have KY45 := Aside0.mk yh2
      clear yh2
      have KL45 := Aside0.mk (show ((l1.length : Int) : Int).toNat ≤ x2.length from by omega)
      replace q5 := eq_true q5
      refine startA 9 (S := fun w' => True) (ds := []) trivial (fun hHeld => ?_); refine with_tabW N1divide.tab15 N1divide.bits15 (fun HT_ HW_ => ?_)
      generalize wr.drew = w5 at HO_10 HO_11 HO_12 HB HR213 hHeld ⊢
      refine pA 0 1 ?_
      refine pA 2 5 ?_
      refine pA 3 13 ?_
      refine pA 4 29 ?_
      refine pA 5 61 ?_
      refine oA 1 63 fun K hK => ?_
      refine goes_ Tryz.func79 (by kernel_rfl) rfl #[.slice P1 x3.length d1] (by rfl) rfl rfl zq5 ?_
      with_reducible refine (N1limbs_trim.calls k1 (fun k_ => some k_ = (.slice P1 x3.length d1 : Value).ownBlock) _ _ x3 t5 _ ?side1 A6.out).mono ?_
      (case side1 => exact Kd.R_V (Kd.R_tight rfl (HO_12.out)))
      rintro e w6 ⟨v6, rfl, ho0, hb⟩
      refine ⟨_, rfl, ?_⟩
      have O5 := Aside0.mk (Kd.V_lower (Kd.V_mono (ok' := fun k_ => (P0_ k_ ∨ w.heap.size ≤ k_) ∧ some k_ ≠ (v2 : Value).ownBlock ∧ some k_ ≠ (.slice P2 x2.length d2 : Value).ownBlock) ho0 (fun k_ hk_ => ⟨Or.elim hk_ (fun hs_ => (.inr (((HO_12.out).1 k_ hs_.symm).1))) (fun hn_ => (.inr (Nat.le_trans (below_size zH) hn_))), Or.elim hk_ (fun hs_ => ((HO_12.out).1 k_ hs_.symm).2.1) (fun hn_ => (Kd.fresh' (Kd.R_lt zq29) k_ hn_)), Or.elim hk_ (fun hs_ => ((HO_12.out).1 k_ hs_.symm).2.2) (fun hn_ => (Kd.fresh' (Kd.R_lt (by (with_reducible repeat (first | apply Kd.R_alloc | apply Kd.R_drewN | apply Kd.R_drew)); exact HO_11.out)) k_ hn_))⟩)) (below_size zH))
      replace HO_10 := rB HO_10 hb
      replace HO_11 := rB HO_11 hb
      replace HO_12 := rB HO_12 hb
      replace HR213 := Aside0.mk (Kd.C_below (by repeat (first | (with_reducible exact HR213.out) | (with_reducible refine Kd.C_alloc ?_ _) | (with_reducible refine Kd.C_drewN ?_ _) | (with_reducible refine Kd.C_drew ?_) | exact HR213.out)) hb)
      replace HB := sB hb
      (try clear hb); (try clear ho0)
      refine hK.out _ _ trivial (fun hHeld => ?_)
      clear hK K
      refine normA (N := 80) ?_
      refine oA 6 127 fun K hK => ?_
      refine goes_ Tryz.func93 (by kernel_rfl) rfl #[.slice P2 y2.length d2, .int .u64 (IntKind.u64.wrap (t2))] (by rfl) rfl rfl zq5 ?_
      with_reducible refine (N1unshift.calls (H := A7.out) (hr0 := ?side1) (hc0 := ?side2) ..).mono ?_
      (case side1 => repeat (first | exact (by repeat (first | (with_reducible exact HR213.out) | (with_reducible refine Kd.C_alloc ?_ _) | (with_reducible refine Kd.C_drewN ?_ _) | (with_reducible refine Kd.C_drew ?_) | exact HR213.out)) | (with_reducible refine Kd.C_alloc ?_ _) | (with_reducible refine Kd.C_drewN ?_ _) | (with_reducible refine Kd.C_drew ?_)))
      (case side2 => exact HC213.out)
      rintro e w7 ⟨v7, rfl, ho0, hb⟩
      refine ⟨_, rfl, ?_⟩
      have O6 := Aside0.mk (Kd.V_lower (Kd.V_mono (ok' := fun k_ => (P0_ k_ ∨ w.heap.size ≤ k_) ∧ some k_ ≠ (v2 : Value).ownBlock ∧ some k_ ≠ (.slice P2 x2.length d2 : Value).ownBlock ∧ some k_ ≠ (.slice P1 x3.length d1 : Value).ownBlock) ho0 (fun k_ hk_ => ⟨(.inr (Nat.le_trans (below_size zH) hk_)), (Kd.fresh' (Kd.R_lt zq29) k_ hk_), (Kd.fresh' (Kd.R_lt (by (with_reducible repeat (first | apply Kd.R_alloc | apply Kd.R_drewN | apply Kd.R_drew)); exact HO_11.out)) k_ hk_), (Kd.fresh' (Kd.R_lt (by (with_reducible repeat (first | apply Kd.R_alloc | apply Kd.R_drewN | apply Kd.R_drew)); exact HO_12.out)) k_ hk_)⟩)) (below_size zH))
      replace HO_10 := rB HO_10 hb
      replace HO_11 := rB HO_11 hb
      replace HO_12 := rB HO_12 hb
      replace O5 := vB O5 hb
      replace HR213 := Aside0.mk (Kd.C_below (by repeat (first | (with_reducible exact HR213.out) | (with_reducible refine Kd.C_alloc ?_ _) | (with_reducible refine Kd.C_drewN ?_ _) | (with_reducible refine Kd.C_drew ?_) | exact HR213.out)) hb)
      replace HB := sB hb
      (try clear hb); (try clear ho0)
      refine hK.out _ _ trivial (fun hHeld => ?_)
      clear hK K
      refine normA (N := 85) ?_
      refine pA 7 255 ?_
      refine pA 8 511 ?_
      refine done_ (done_of HT_.out (by kernel_rfl)) ?_
      try go_wp2
      go_ret2
      exact ⟨_, _, by first | rfl | (simp [errW_none, errW_some] <;> rfl) | (simp only [← jh1, ← jh2]; first | rfl | (simp [errW_none, errW_some] <;> rfl)) | (simp [*, errW_none, errW_some] <;> rfl), by (with_reducible repeat (first | apply Kd.V_alloc | apply Kd.V_drewN | apply Kd.V_drew)); exact Kd.V_mono O5.out (fun _ hk => hk.1), by (with_reducible repeat (first | apply Kd.V_alloc | apply Kd.V_drewN | apply Kd.V_drew)); exact Kd.V_mono O6.out (fun _ hk => hk.1), zH⟩
def N1GCD.l0 : Nat → List Int → List Int → Option (ByteArray)
 | 0, _, _ => none
 | k + 1, x5, x6 => if (x6.length : Int) > 0 then ((N1divide.f k x5 x6).bind fun bt223 => (N1GCD.l0 k x6 bt223.2)) else ((N1limbs_text.f k x5).bind fun t229 => (some t229))
def N1GCD.f (k : Nat) (a0 a1 : ByteArray) : Option (ByteArray) := (N1parse.f k a0).bind fun t217 => ((N1parse.f k a1).bind fun t220 => (N1GCD.l0 k t217 t220))
theorem N1GCD.calls (k : Nat) (a0 a1 r : ByteArray) (w : World) (H : N1GCD.f k a0 a1 = some r) :
 Calls Tryz.prog 61 #[.string a0, .string a1] w fun e w' => e = .returned (.string r) ∧ Below w.heap.size w w' := by
 have HB := Aside0.mk (Below.refl w.heap.size w)
 unfold N1GCD.f at H
 replace ⟨t1, A1, H⟩ := bS H
 replace ⟨t2, A2, H⟩ := bS H
 have H' := Aside0.mk H
 clear H
 go_enter Tryz.func61, Tryz.ntmps61
 go_wp2_with (first | (refine gR 10 Tryz.func63 (N1parse.calls _ _ _ _ A1.out) fun v1 w1 ho0 hb => ?_; have O1 := Aside0.mk (Kd.V_lower (Kd.V_mono (ok' := fun k_ => True) ho0 (fun k_ hk_ => trivial)) (below_size zH)); replace HB := sB hb; (try clear hb); (try clear ho0)) | (refine gR 12 Tryz.func63 (N1parse.calls _ _ _ _ A2.out) fun v2 w2 ho0 hb => ?_; have O2 := Aside0.mk (Kd.V_lower (Kd.V_mono (ok' := fun k_ => True) ho0 (fun k_ hk_ => trivial)) (below_size zH)); replace O1 := vB O1 hb; replace HB := sB hb; (try clear hb); (try clear ho0)))
 go_loopg [5, 6] k (fun kq v3 v4 w' => ∃ (x1 : List Int) (x2 : List Int), Aside0 (N1GCD.l0 kq x1 x2 = some r) ∧ Aside0 (kq ≤ k) ∧ Aside0 (Kd.V (Kd.int .u32) 80 w' w.heap.size (fun _ => True) v3 x1) ∧ Aside0 (Kd.V (Kd.int .u32) 80 w' w.heap.size (fun _ => True) v4 x2) ∧ Aside0 (Below w.heap.size w w'))
 case atStart => exact ⟨(t1), (t2), H', ⟨Nat.le_refl _⟩, ⟨zV⟩, ⟨zV⟩, ⟨zH⟩⟩
 case round =>
  clear H'
  obtain ⟨x1, x2, HA, HK1, HO_5, HO_6, HB⟩ := hrel
  cases gk with
  | zero => exact absurd HA.out (by simp [N1GCD.l0])
  | succ k1 =>
   have H := HA.out
   clear HA
   simp only [N1GCD.l0] at H
   by_cases c1 : (x2.length : Int) > 0
   ·rw [if_pos c1] at H
    have c1b0 := decide_eq_true c1
    have c1b1 : decide (0 < x2.length) = true := decide_eq_true (by omega)
    clear c1
    replace ⟨⟨t3, t4⟩, A3, H⟩ := bS H
    (try dsimp only at H)
    have H' := Aside0.mk H
    clear H
    obtain ⟨P1, d1, u1⟩ := Kd.V_slice HO_6.out
    subst u1
    obtain ⟨P2, d2, u2⟩ := Kd.V_slice HO_5.out
    subst u2
    go_wp2_with (refine goesLA 19 Tryz.func78 #[.slice P2 x1.length d2, .slice P1 x2.length d1] ?_; (with_reducible refine (N1divide.calls k1 (fun k_ => True) _ _ x1 _ _ x2 t3 t4 _ ?side1 ?side2 ?side3 A3.out).mono ?_); (case side1 => exact HO_5.out); (case side2 => exact sC (Kd.V_reads' HO_6.out).2.2); (case side3 => exact (Kd.V_reads' HO_6.out).2.1); rintro e w3 ⟨v5, v6, rfl, ho0, ho1, hb⟩; refine ⟨_, rfl, ?_⟩; have O3 := Aside0.mk (Kd.V_lower (Kd.V_mono (ok' := fun k_ => True) ho0 (fun k_ hk_ => trivial)) (below_size zH)); have O4 := Aside0.mk (Kd.V_lower (Kd.V_mono (ok' := fun k_ => True) ho1 (fun k_ hk_ => trivial)) (below_size zH)); replace HO_5 := vB HO_5 hb; replace HO_6 := vB HO_6 hb; replace HB := sB hb; (try clear hb); (try clear ho0); (try clear ho1))
    go_roundg k1
    case measure => have := HK1.out; omega
    case rel => exact ⟨(x2), (t4), H', ⟨zq4⟩, ⟨zV⟩, ⟨zV⟩, ⟨zH⟩⟩
   ·rw [if_neg c1] at H
    have c1b0 := decide_eq_false c1
    have c1b1 : decide (0 < x2.length) = false := decide_eq_false (by omega)
    clear c1
    replace ⟨t3, A3, H⟩ := bS H
    obtain rfl := sI H
    obtain ⟨P1, d1, u1⟩ := Kd.V_slice HO_6.out
    subst u1
    obtain ⟨P2, d2, u2⟩ := Kd.V_slice HO_5.out
    subst u2
    go_wp2_with (refine gB 25 Tryz.func64 (N1limbs_text.calls k1 _ _ x1 t3 _ ?side1 ?side2 A3.out) fun w3 hb HB => ?_; (case side1 => exact sC (Kd.V_reads' HO_5.out).2.2); (case side2 => exact (Kd.V_reads' HO_5.out).2.1); replace HO_5 := vB HO_5 hb; replace HO_6 := vB HO_6 hb; clear hb)
    go_ret
    exact ⟨zE, zH⟩
def N1Divide.f (k : Nat) (a0 a1 : ByteArray) : Option (ByteArray × ByteArray × Bool) := (N1parse.f k a1).bind fun t230 => (if (t230.length : Int) = 0 then (some ((⟨#[]⟩ : ByteArray), (⟨#[]⟩ : ByteArray), false)) else ((N1parse.f k a0).bind fun t233 => ((N1divide.f k t233 t230).bind fun bt236 => ((N1limbs_text.f k bt236.1).bind fun t242 => ((N1limbs_text.f k bt236.2).bind fun t243 => (some (t242, t243, true)))))))
theorem N1Divide.calls (k : Nat) (a0 a1 r1 r2 : ByteArray) (r3 : Bool) (w : World) (H : N1Divide.f k a0 a1 = some (r1, r2, r3)) :
 Calls Tryz.prog 62 #[.string a0, .string a1] w fun e w' => e = .returned (.tuple #[.string r1, .string r2, .bool r3]) ∧ Below w.heap.size w w' := by
 have HB := Aside0.mk (Below.refl w.heap.size w)
 unfold N1Divide.f at H
 replace ⟨t1, A1, H⟩ := bS H
 by_cases c1 : (t1.length : Int) = 0
 ·rw [if_pos c1] at H
  have c1b0 := beq_iff_eq.mpr c1
  have c1b1 : ((t1.length : Int) != 0) = false := bne_eq_false_iff_eq.mpr c1
  clear c1
  simp only [Option.some.injEq, Prod.mk.injEq] at H
  obtain ⟨rfl, rfl, rfl⟩ := H
  go_enter Tryz.func62, Tryz.ntmps62
  go_wp2_with (refine gR 11 Tryz.func63 (N1parse.calls _ _ _ _ A1.out) fun v1 w1 ho0 hb => ?_; have O1 := Aside0.mk (Kd.V_lower (Kd.V_mono (ok' := fun k_ => True) ho0 (fun k_ hk_ => trivial)) (below_size zH)); replace HB := sB hb; (try clear hb); (try clear ho0); obtain ⟨P1, d1, u1⟩ := Kd.V_slice O1.out; subst u1)
  go_ret3
  exact ⟨zE, zH⟩
 ·rw [if_neg c1] at H
  have c1b0 := beq_eq_false_iff_ne.mpr c1
  have c1b1 := bne_iff_ne.mpr c1
  have c1b2 : ¬ (t1 = []) := fun h_ => c1 (by rw [h_]; rfl)
  replace ⟨t2, A2, H⟩ := bS H
  replace ⟨⟨t3, t4⟩, A3, H⟩ := bS H
  (try dsimp only at H)
  replace ⟨t5, A4, H⟩ := bS H
  replace ⟨t6, A5, H⟩ := bS H
  simp only [Option.some.injEq, Prod.mk.injEq] at H
  obtain ⟨rfl, rfl, rfl⟩ := H
  go_enter Tryz.func62, Tryz.ntmps62
  go_wp2_with (first | (refine gR 11 Tryz.func63 (N1parse.calls _ _ _ _ A1.out) fun v1 w1 ho0 hb => ?_; have O1 := Aside0.mk (Kd.V_lower (Kd.V_mono (ok' := fun k_ => True) ho0 (fun k_ hk_ => trivial)) (below_size zH)); replace HB := sB hb; (try clear hb); (try clear ho0); obtain ⟨P1, d1, u1⟩ := Kd.V_slice O1.out; subst u1) | (refine gR 17 Tryz.func63 (N1parse.calls _ _ _ _ A2.out) fun v2 w2 ho0 hb => ?_; have O2 := Aside0.mk (Kd.V_lower (Kd.V_mono (ok' := fun k_ => True) ho0 (fun k_ hk_ => trivial)) (below_size zH)); replace O1 := vB O1 hb; replace HB := sB hb; (try clear hb); (try clear ho0); obtain ⟨P2, d2, u2⟩ := Kd.V_slice O2.out; subst u2) | (refine goesLA 19 Tryz.func78 #[.slice P2 t2.length d2, .slice P1 t1.length d1] ?_; (with_reducible refine (N1divide.calls k (fun k_ => True) _ _ t2 _ _ t1 t3 t4 _ ?side1 ?side2 ?side3 A3.out).mono ?_); (case side1 => exact O2.out); (case side2 => exact sC (Kd.V_reads' O1.out).2.2); (case side3 => exact (Kd.V_reads' O1.out).2.1); rintro e w3 ⟨v3, v4, rfl, ho0, ho1, hb⟩; refine ⟨_, rfl, ?_⟩; have O3 := Aside0.mk (Kd.V_lower (Kd.V_mono (ok' := fun k_ => True) ho0 (fun k_ hk_ => trivial)) (below_size zH)); have O4 := Aside0.mk (Kd.V_lower (Kd.V_mono (ok' := fun k_ => True) ho1 (fun k_ hk_ => trivial)) (below_size zH)); replace O1 := vB O1 hb; replace O2 := vB O2 hb; replace HB := sB hb; (try clear hb); (try clear ho0); (try clear ho1); obtain ⟨P3, d3, u3⟩ := Kd.V_slice O3.out; subst u3) | (refine gB 23 Tryz.func64 (N1limbs_text.calls k _ _ t3 t5 _ ?side1 ?side2 A4.out) fun w4 hb HB => ?_; (case side1 => exact sC (Kd.V_reads' O3.out).2.2); (case side2 => exact (Kd.V_reads' O3.out).2.1); replace O1 := vB O1 hb; replace O2 := vB O2 hb; replace O3 := vB O3 hb; replace O4 := vB O4 hb; clear hb; obtain ⟨P4, d4, u4⟩ := Kd.V_slice O4.out; subst u4) | (refine gB 25 Tryz.func64 (N1limbs_text.calls k _ _ t4 t6 _ ?side1 ?side2 A5.out) fun w5 hb HB => ?_; (case side1 => exact sC (Kd.V_reads' O4.out).2.2); (case side2 => exact (Kd.V_reads' O4.out).2.1); replace O1 := vB O1 hb; replace O2 := vB O2 hb; replace O3 := vB O3 hb; replace O4 := vB O4 hb; clear hb))
  go_ret3
  exact ⟨zE, zH⟩
mutual
def N1Add.j0 : Nat → List Int → List Int → Option (ByteArray)
 | 0, _, _ => none
 | k + 1, x5, x6 => if 0 ≤ (wrap64 ((x5.length : Int) + 1)) then (if (wrap64 ((x5.length : Int) + 1) : Int).toNat ≤ 70368744177664 then (N1Add.l0 k x5 x6 (List.replicate (wrap64 ((x5.length : Int) + 1) : Int).toNat 0) 0 (x5.length : Int) 0) else (none)) else (none)
def N1Add.l0 : Nat → List Int → List Int → List Int → Int → Int → Int → Option (ByteArray)
 | 0, _, _, _, _, _, _ => none
 | k + 1, x5, x6, x7, x8, x27, x28 => if x28 < x27 then (if x28 < (x6.length : Int) then (if 0 ≤ x28 then (if x28 < (x5.length : Int) then ((bits_Add32.f (rd x5 x28) (rd x6 x28) x8).bind fun bt255 => (if x28 < (x7.length : Int) then (N1Add.l0 k x5 x6 (x7.set (x28 : Int).toNat bt255.1) bt255.2 x27 (wrap64 (x28 + 1))) else (none))) else (none)) else (none)) else (if 0 ≤ x28 then (if x28 < (x5.length : Int) then ((bits_Add32.f (rd x5 x28) 0 x8).bind fun bt259 => (if x28 < (x7.length : Int) then (N1Add.l0 k x5 x6 (x7.set (x28 : Int).toNat bt259.1) bt259.2 x27 (wrap64 (x28 + 1))) else (none))) else (none)) else (none))) else (if 0 ≤ (x5.length : Int) then (if (x5.length : Int) < (x7.length : Int) then ((N1limbs_text.f k (x7.set ((x5.length : Int) : Int).toNat x8)).bind fun t263 => (some t263)) else (none)) else (none))
end
def N1Add.f (k : Nat) (a0 a1 : ByteArray) : Option (ByteArray) := (N1parse.f k a0).bind fun t244 => ((N1parse.f k a1).bind fun t247 => (if (t244.length : Int) < (t247.length : Int) then (N1Add.j0 k t247 t244) else (N1Add.j0 k t244 t247)))
theorem N1Add.calls (k : Nat) (a0 a1 r : ByteArray) (w : World) (H : N1Add.f k a0 a1 = some r) :
 Calls Tryz.prog 57 #[.string a0, .string a1] w fun e w' => e = .returned (.string r) ∧ Below w.heap.size w w' := by
 have HB := Aside0.mk (Below.refl w.heap.size w)
 unfold N1Add.f at H
 replace ⟨t1, A1, H⟩ := bS H
 replace ⟨t2, A2, H⟩ := bS H
 have HC5 := Aside0.mk H
 clear H
 go_enter Tryz.func57, Tryz.ntmps57
 go_upto_if 19 with (first | (refine gR 12 Tryz.func63 (N1parse.calls _ _ _ _ A1.out) fun v2 w2 ho0 hb => ?_; have O1 := Aside0.mk (Kd.V_lower (Kd.V_mono (ok' := fun k_ => True) ho0 (fun k_ hk_ => trivial)) (below_size zH)); replace HB := sB hb; (try clear hb); (try clear ho0)) | (refine gR 14 Tryz.func63 (N1parse.calls _ _ _ _ A2.out) fun v3 w3 ho0 hb => ?_; have O2 := Aside0.mk (Kd.V_lower (Kd.V_mono (ok' := fun k_ => True) ho0 (fun k_ hk_ => trivial)) (below_size zH)); replace O1 := vB O1 hb; replace HB := sB hb; (try clear hb); (try clear ho0); obtain ⟨P1, d1, u1⟩ := Kd.V_slice O1.out; subst u1; obtain ⟨P2, d2, u2⟩ := Kd.V_slice O2.out; subst u2))
 (try simp only [Act.put, List.setIfInBounds_toArray, List.set_cons_zero, List.set_cons_succ])
 go_cut [5, 6] (fun v4 v5 wc => ∃ (kq : Nat) (x1 : List Int) (x2 : List Int), Aside0 (N1Add.j0 kq x1 x2 = some r) ∧ Aside0 (kq ≤ k) ∧ Aside0 (Kd.V (Kd.int .u32) 80 wc w.heap.size (fun _ => True) v4 x1) ∧ Aside0 (Kd.V (Kd.int .u32) 80 wc w.heap.size (fun _ => True) v5 x2) ∧ Aside0 (Below w.heap.size w wc))
 case first =>
  have H := HC5.out
  clear HC5
  by_cases c1 : (t1.length : Int) < (t2.length : Int)
  ·rw [if_pos c1] at H
   have c1b0 := decide_eq_true c1
   have c1b1 : decide (t1.length < t2.length) = true := decide_eq_true (Int.ofNat_lt.mp c1)
   clear c1
   (first | rw [c1b0] | (simp only [i64_w, i32_w]; rw [c1b0]) | rw [c1b1] | skip)
   have H' := Aside0.mk H
   clear H
   go_wp2
   go_meet
   case rel => exact ⟨_, (t2), (t1), H', ⟨zq6⟩, ⟨zV⟩, ⟨zV⟩, ⟨zH⟩⟩
  ·rw [if_neg c1] at H
   have c1b0 := decide_eq_false c1
   have c1b1 : decide (t1.length < t2.length) = false := decide_eq_false (fun h => c1 (Int.ofNat_lt.mpr h))
   clear c1
   (first | rw [c1b0] | (simp only [i64_w, i32_w]; rw [c1b0]) | rw [c1b1] | skip)
   have H' := Aside0.mk H
   clear H
   go_wp2
   go_meet
   case rel => exact ⟨_, (t1), (t2), H', ⟨zq6⟩, ⟨zV⟩, ⟨zV⟩, ⟨zH⟩⟩
 case rest =>
  clear HC5
  obtain ⟨kq, x1, x2, HA, HJ4, HO_5, HO_6, HB⟩ := hcut
  cases kq with
  | zero => exact absurd HA.out (by simp [N1Add.j0])
  | succ kj4 =>
   have H := HA.out
   clear HA
   simp only [N1Add.j0] at H
   obtain ⟨j1, jh1, jh1w⟩ := jI ((x1.length : Int) + 1)
   first | rw [jh1] at H | simp only [jh1] at H
   replace ⟨c2b0, c2b1, H⟩ := iteE H
   replace ⟨c3b0, c3b1, H⟩ := iteE H
   generalize yh1 : (List.replicate (j1 : Int).toNat 0 : List Int) = y1 at H
   have Y1 := Aside0.mk yh1.symm; clear yh1
   have H' := Aside0.mk H
   clear H
   obtain ⟨P3, d3, u3⟩ := Kd.V_slice HO_5.out
   subst u3
   go_wp2_with ((with_reducible refine gate_dst (N := 25) rfl ?_); refine Kd.R_make (Kd.int .u32) _ 80 rfl (N := 25) rfl 78 _ _ rfl j1 rfl rfl Tryz.underlying78 (.int .u32 0) 4 info80 rfl (by decide) (by omega) 0 (ok := fun _ => True) (okp := fun _ => True) rfl (fun _ hk => hk) trivial (of_decide_eq_true zq0) (Nat.le_trans (Nat.mul_le_mul_right _ (of_decide_eq_true zq0 : j1.toNat ≤ 70368744177664)) (by omega)) (Below.refl _ _) (Nat.le_refl _) ?_; intro v6 w4 ho16 hb hg_ hnew_; clear hg_ hnew_; (first | rw [← Y1.out] at ho16 | (simp only [Int.reduceToNat] at ho16; rw [← Y1.out] at ho16)); have O3 := Aside0.mk (Kd.R_lower ho16 (below_size zH)); replace HO_5 := Aside0.mk (Kd.V_elder' zq49 (Kd.R_base ho16) hb); replace HO_6 := Aside0.mk (Kd.V_elder' zq50 (Kd.R_base ho16) hb); replace HB := sB hb; clear hb ho16)
   go_loopg [8, 28] kj4 (fun kq v7 v8 w' => ∃ (x3 : List Int) (x4 : Int) (x5 : Int), v7 = .int .u32 x4 ∧ v8 = .int .i64 x5 ∧ Aside0 (N1Add.l0 kq x1 x2 x3 x4 (x1.length : Int) x5 = some r) ∧ Aside0 (kq ≤ kj4) ∧ Aside0 (Kd.V (Kd.int .u32) 80 w' w.heap.size (fun k_ => some k_ ≠ (v6 : Value).ownBlock) (.slice P3 x1.length d3) x1) ∧ Aside0 (Kd.V (Kd.int .u32) 80 w' w.heap.size (fun k_ => some k_ ≠ (v6 : Value).ownBlock) u6 x2) ∧ Aside0 (Kd.R (Kd.int .u32) 80 w' w.heap.size (fun _ => True) v6 x3) ∧ Aside0 (Below w.heap.size w w'))
   case atStart => exact ⟨(y1), (0), (0), zq1, zq1, H', ⟨Nat.le_refl _⟩, ⟨zq51⟩, ⟨zq30⟩, ⟨zR⟩, ⟨zH⟩⟩
   case round =>
    clear H'
    obtain ⟨x3, x4, x5, rfl, rfl, HA, HK2, HO_5, HO_6, HO_7, HB⟩ := hrel
    cases gk with
    | zero => exact absurd HA.out (by simp [N1Add.l0])
    | succ k2 =>
     have H := HA.out
     clear HA
     simp only [N1Add.l0] at H
     replace H := iL H
     rcases H with ⟨c4b0, H⟩ | ⟨c4b0, H⟩
     ·replace H := iL H
      rcases H with ⟨c5b0, H⟩ | ⟨c5b0, H⟩
      ·replace ⟨c6b0, H⟩ := iteD H
       replace ⟨c7b0, H⟩ := iteD H
       replace ⟨⟨t3, t4⟩, A3, H⟩ := bS H
       (try dsimp only at H)
       replace ⟨c8b0, H⟩ := iteD H
       generalize yh2 : (x3.set (x5 : Int).toNat t3 : List Int) = y2 at H
       have Y2 := Aside0.mk yh2.symm; clear yh2
       have H' := Aside0.mk H
       clear H
       obtain ⟨P4, d4, u4⟩ := Kd.V_slice HO_6.out
       subst u4
       obtain ⟨ad1, e1, hx1, p1, q1⟩ := atI (Kd.V_reads' HO_6.out).2.2 x5
       cases e1
       obtain ⟨ad2, e2, hx2, p2, q2⟩ := atI (Kd.V_reads' HO_5.out).2.2 x5
       cases e2
       go_wp2_with (first | (refine gD 48 Tryz.func74 (bits_Add32.calls _ _ _ _ _ _ A3.out) fun nd => ?_; (try (rw [drewN_self wr]; generalize hq_ : World.drewN wr _ = wr; have n0_ : Aside0 (Kd.V (Kd.int .u32) 80 wr w.heap.size (fun k_ => some k_ ≠ (v6 : Value).ownBlock) (.slice (some ad2) x1.length d3) x1) := ⟨by rw [← hq_]; exact zq49⟩; have n1_ : Aside0 (Kd.V (Kd.int .u32) 80 wr w.heap.size (fun k_ => some k_ ≠ (v6 : Value).ownBlock) (.slice (some ad1) x2.length d4) x2) := ⟨by rw [← hq_]; exact zq50⟩; have n2_ : Aside0 (Kd.R (Kd.int .u32) 80 wr w.heap.size (fun _ => True) v6 x3) := ⟨by rw [← hq_]; exact (by (with_reducible repeat (first | apply Kd.R_alloc | apply Kd.R_drewN | apply Kd.R_drew)); exact HO_7.out)⟩; have n3_ : Aside0 (Below w.heap.size w wr) := ⟨by rw [← hq_]; exact zH⟩; clear HO_5 HO_6 HO_7 HB hq_; have HO_5 := n0_; have HO_6 := n1_; have HO_7 := n2_; have HB := n3_; clear n0_ n1_ n2_ n3_)); have p3 : 0 ≤ (x5 : Int) := of_decide_eq_true zq0; have q3 : (x5 : Int) < ((x3.length : Int) : Int) := of_decide_eq_true zq0; obtain ⟨go1, d5, u5, g1, gl23, cl23, HG23⟩ := Kd.R_form HO_7.out (by omega); (first | cases u5 | (injection u5 with ea_ en_ ec_; (first | subst ea_ | (injection ea_ with ea_; subst ea_)); subst ec_; clear en_)); have GB1 := Aside0.mk g1; have GG23 := Aside0.mk HG23; clear g1 gl23 HG23; obtain ⟨hx3, hf23_0⟩ := Kd.R_celln 0 HO_7.out (x5 : Int) p3 q3; replace p3 := eq_true p3; replace q3 := eq_true q3; obtain ⟨hy25_, hz25_⟩ := Kd.R_celln 0 HO_7.out (x5 : Int) (of_decide_eq_true zq0) (of_decide_eq_true zq0); have HP1 := Kd.R_putg HO_7.out (x5 : Int) t3) | (refine stR 80 51 HP1 Y2 fun w5 hw hg hp_ => ?_; clear HP1; replace HO_5 := Aside0.mk (Kd.V_afterv (v := (.slice (some ⟨go1, 0, none⟩) x3.length d5)) (v1 := (.slice (some ⟨go1, 0, none⟩) x3.length d5)) (ok := (fun _ => True)) zq52 hg (.inl rfl)); replace HO_6 := Aside0.mk (Kd.V_afterv (v := (.slice (some ⟨go1, 0, none⟩) x3.length d5)) (v1 := (.slice (some ⟨go1, 0, none⟩) x3.length d5)) (ok := (fun _ => True)) zq31 hg (.inl rfl)); replace HO_7 := Aside0.mk (hp_); replace HB := bS2 hw HB GB1; clear hg hw hp_))
       go_roundg k2
       case measure => have := HJ4.out; have := HK2.out; omega
       case rel => exact ⟨(y2), (t4), (wrap64 (x5 + 1)), zq1, zq1, H', ⟨by have := HJ4.out; have := HK2.out; omega⟩, ⟨zq51⟩, ⟨zq30⟩, ⟨zR⟩, ⟨zH⟩⟩
      ·replace ⟨c6b0, H⟩ := iteD H
       replace ⟨c7b0, H⟩ := iteD H
       replace ⟨⟨t3, t4⟩, A3, H⟩ := bS H
       (try dsimp only at H)
       replace ⟨c8b0, H⟩ := iteD H
       generalize yh2 : (x3.set (x5 : Int).toNat t3 : List Int) = y2 at H
       have Y2 := Aside0.mk yh2.symm; clear yh2
       have H' := Aside0.mk H
       clear H
       obtain ⟨P4, d4, u4⟩ := Kd.V_slice HO_6.out
       subst u4
       obtain ⟨ad1, e1, hx1, p1, q1⟩ := atI (Kd.V_reads' HO_5.out).2.2 x5
       cases e1
       go_wp2_with (first | (refine gD 48 Tryz.func74 (bits_Add32.calls _ _ _ _ _ _ A3.out) fun nd => ?_; (try (rw [drewN_self wr]; generalize hq_ : World.drewN wr _ = wr; have n0_ : Aside0 (Kd.V (Kd.int .u32) 80 wr w.heap.size (fun k_ => some k_ ≠ (v6 : Value).ownBlock) (.slice (some ad1) x1.length d3) x1) := ⟨by rw [← hq_]; exact zq49⟩; have n1_ : Aside0 (Kd.V (Kd.int .u32) 80 wr w.heap.size (fun k_ => some k_ ≠ (v6 : Value).ownBlock) (.slice P4 x2.length d4) x2) := ⟨by rw [← hq_]; exact zq50⟩; have n2_ : Aside0 (Kd.R (Kd.int .u32) 80 wr w.heap.size (fun _ => True) v6 x3) := ⟨by rw [← hq_]; exact (by (with_reducible repeat (first | apply Kd.R_alloc | apply Kd.R_drewN | apply Kd.R_drew)); exact HO_7.out)⟩; have n3_ : Aside0 (Below w.heap.size w wr) := ⟨by rw [← hq_]; exact zH⟩; clear HO_5 HO_6 HO_7 HB hq_; have HO_5 := n0_; have HO_6 := n1_; have HO_7 := n2_; have HB := n3_; clear n0_ n1_ n2_ n3_)); have p2 : 0 ≤ (x5 : Int) := of_decide_eq_true zq0; have q2 : (x5 : Int) < ((x3.length : Int) : Int) := of_decide_eq_true zq0; obtain ⟨go1, d5, u5, g1, gl31, cl31, HG31⟩ := Kd.R_form HO_7.out (by omega); (first | cases u5 | (injection u5 with ea_ en_ ec_; (first | subst ea_ | (injection ea_ with ea_; subst ea_)); subst ec_; clear en_)); have GB1 := Aside0.mk g1; have GG31 := Aside0.mk HG31; clear g1 gl31 HG31; obtain ⟨hx2, hf31_0⟩ := Kd.R_celln 0 HO_7.out (x5 : Int) p2 q2; replace p2 := eq_true p2; replace q2 := eq_true q2; obtain ⟨hy33_, hz33_⟩ := Kd.R_celln 0 HO_7.out (x5 : Int) (of_decide_eq_true zq0) (of_decide_eq_true zq0); have HP1 := Kd.R_putg HO_7.out (x5 : Int) t3) | (refine stR 80 51 HP1 Y2 fun w5 hw hg hp_ => ?_; clear HP1; replace HO_5 := Aside0.mk (Kd.V_afterv (v := (.slice (some ⟨go1, 0, none⟩) x3.length d5)) (v1 := (.slice (some ⟨go1, 0, none⟩) x3.length d5)) (ok := (fun _ => True)) zq52 hg (.inl rfl)); replace HO_6 := Aside0.mk (Kd.V_afterv (v := (.slice (some ⟨go1, 0, none⟩) x3.length d5)) (v1 := (.slice (some ⟨go1, 0, none⟩) x3.length d5)) (ok := (fun _ => True)) zq31 hg (.inl rfl)); replace HO_7 := Aside0.mk (hp_); replace HB := bS2 hw HB GB1; clear hg hw hp_))
       go_roundg k2
       case measure => have := HJ4.out; have := HK2.out; omega
       case rel => exact ⟨(y2), (t4), (wrap64 (x5 + 1)), zq1, zq1, H', ⟨by have := HJ4.out; have := HK2.out; omega⟩, ⟨zq51⟩, ⟨zq30⟩, ⟨zR⟩, ⟨zH⟩⟩
     ·replace H := of_ite H
      obtain ⟨c5, H⟩ := H
      have c5b0 := decide_eq_true c5
      have c5b1 : decide (0 ≤ x1.length) = true := decide_eq_true (by omega)
      clear c5
      replace H := of_ite H
      obtain ⟨c6, H⟩ := H
      have c6b0 := decide_eq_true c6
      have c6b1 : decide (x1.length < x3.length) = true := decide_eq_true (Int.ofNat_lt.mp c6)
      clear c6
      generalize yh2 : (x3.set ((x1.length : Int) : Int).toNat x4 : List Int) = y2 at H
      have Y2 := Aside0.mk yh2.symm; clear yh2
      replace ⟨t3, A3, H⟩ := bS H
      obtain rfl := sI H
      have p1 : 0 ≤ ((x1.length : Int) : Int) := of_decide_eq_true zq0
      have q1 : ((x1.length : Int) : Int) < ((x3.length : Int) : Int) := of_decide_eq_true zq0
      obtain ⟨go1, d4, u4, g1, gl37, cl37, HG37⟩ := Kd.R_form HO_7.out (by omega)
      (first | cases u4 | (injection u4 with ea_ en_ ec_; (first | subst ea_ | (injection ea_ with ea_; subst ea_)); subst ec_; clear en_))
      have GB1 := Aside0.mk g1
      have GG37 := Aside0.mk HG37
      clear g1 gl37 HG37
      obtain ⟨hx1, hf37_0⟩ := Kd.R_celln 0 HO_7.out ((x1.length : Int) : Int) p1 q1
      (try simp only [Go.IntWalk.toNatUp] at hx1 hf37_0)
      replace p1 := eq_true p1
      replace q1 := eq_true q1
      have HP1 := Kd.R_putg HO_7.out ((x1.length : Int) : Int) x4
      go_wp2_with (first | (refine stR 80 57 HP1 Y2 fun w5 hw hg hp_ => ?_; clear HP1; replace HO_5 := Aside0.mk (Kd.V_afterv (v := (.slice (some ⟨go1, 0, none⟩) x3.length d4)) (v1 := (.slice (some ⟨go1, 0, none⟩) x3.length d4)) (ok := (fun _ => True)) zq52 hg (.inl rfl)); replace HO_6 := Aside0.mk (Kd.V_afterv (v := (.slice (some ⟨go1, 0, none⟩) x3.length d4)) (v1 := (.slice (some ⟨go1, 0, none⟩) x3.length d4)) (ok := (fun _ => True)) zq31 hg (.inl rfl)); replace HO_7 := Aside0.mk (hp_); replace HB := bS2 hw HB GB1; clear hg hw hp_) | ((with_reducible refine gate_callee (f := 64) rfl ?_); refine goesL_ (some 59) rfl rfl Tryz.func64 (by kernel_rfl) rfl #[.slice (some ⟨go1, 0, none⟩) y2.length d4] rfl (by (try simp only [List.map_toArray, List.map_cons, List.map_nil]); first | done | (rw [show y2.length = x3.length from (Kd.R_reads' HO_7.out).1.symm] <;> rfl) | rfl | (simp only [List.length_drop, List.length_take]; rfl)) ?_; (with_reducible refine (N1limbs_text.calls k2 _ _ y2 t3 _ ?side1 ?side2 A3.out).mono ?_); (case side1 => exact sC (Kd.R_reads' HO_7.out).2.2); (case side2 => rw [show y2.length = x3.length from (Kd.R_reads' HO_7.out).1.symm]; exact (Kd.R_reads' HO_7.out).2.1); rintro e w6 ⟨rfl, hb⟩; refine ⟨_, rfl, ?_⟩; replace HO_5 := vB HO_5 hb; replace HO_6 := vB HO_6 hb; replace HO_7 := rB HO_7 hb; replace HB := sB hb; (try clear hb)))
      go_ret
      exact ⟨zq9, zH⟩
def N1subtract.l0 : Nat → List Int → List Int → List Int → Int → Int → Int → Option (List Int)
 | 0, _, _, _, _, _, _ => none
 | k + 1, x0, x1, x5, x6, x13, x14 => if x14 < x13 then (if x14 < (x1.length : Int) then (if 0 ≤ x14 then (if x14 < (x0.length : Int) then ((bits_Sub32.f (rd x0 x14) (rd x1 x14) x6).bind fun bt269 => (if x14 < (x5.length : Int) then (N1subtract.l0 k x0 x1 (x5.set (x14 : Int).toNat bt269.1) bt269.2 x13 (wrap64 (x14 + 1))) else (none))) else (none)) else (none)) else (if 0 ≤ x14 then (if x14 < (x0.length : Int) then ((bits_Sub32.f (rd x0 x14) 0 x6).bind fun bt273 => (if x14 < (x5.length : Int) then (N1subtract.l0 k x0 x1 (x5.set (x14 : Int).toNat bt273.1) bt273.2 x13 (wrap64 (x14 + 1))) else (none))) else (none)) else (none))) else ((N1limbs_trim.f k x5).bind fun t276 => (some t276))
def N1subtract.f (k : Nat) (l0 l1 : List Int) : Option (List Int) := if 0 ≤ (l0.length : Int) then (if ((l0.length : Int) : Int).toNat ≤ 70368744177664 then (N1subtract.l0 k l0 l1 (List.replicate ((l0.length : Int) : Int).toNat 0) 0 (l0.length : Int) 0) else (none)) else (none)
theorem N1subtract.calls (k : Nat) (A0 : Option Addr) (c0 : Nat) (l0 : List Int) (A1 : Option Addr) (c1 : Nat) (l1 r : List Int) (w : World) (hr0 : Kd.C (Kd.int .u32) w A0 l0.length l0) (hc0 : l0.length ≤ c0) (hr1 : Kd.C (Kd.int .u32) w A1 l1.length l1) (hc1 : l1.length ≤ c1) (H : N1subtract.f k l0 l1 = some r) :
 Calls Tryz.prog 76 #[.slice A0 l0.length c0, .slice A1 l1.length c1] w fun e w' => ∃ v0_ : Value, e = .returned (v0_) ∧ Kd.V (Kd.int .u32) 80 w' w.heap.size (fun k_ => (w.heap.size ≤ k_)) v0_ r ∧ Below w.heap.size w w' := by
 have HR0 := Aside0.mk hr0
 have HC0 := Aside0.mk hc0
 clear hr0 hc0
 have HR1 := Aside0.mk hr1
 have HC1 := Aside0.mk hc1
 clear hr1 hc1
 have HB := Aside0.mk (Below.refl w.heap.size w)
 unfold N1subtract.f at H
 replace ⟨c2b0, c2b1, H⟩ := iteE H
 replace ⟨c3b0, c3b1, H⟩ := iteE H
 generalize yh1 : (List.replicate ((l0.length : Int) : Int).toNat 0 : List Int) = y1 at H
 have Y1 := Aside0.mk yh1.symm; clear yh1
 have H' := Aside0.mk H
 clear H
 go_enter Tryz.func76, Tryz.ntmps76
 go_wp2_with ((with_reducible refine gate_dst (N := 11) rfl ?_); refine Kd.R_make (Kd.int .u32) _ 80 rfl (N := 11) rfl 78 _ _ rfl (l0.length : Int) rfl rfl Tryz.underlying78 (.int .u32 0) 4 info80 rfl (by decide) (by omega) 0 (ok := fun _ => True) (okp := fun _ => True) rfl (fun _ hk => hk) trivial (of_decide_eq_true zq0) (Nat.le_trans (Nat.mul_le_mul_right _ (of_decide_eq_true zq0 : (l0.length : Int).toNat ≤ 70368744177664)) (by omega)) (Below.refl _ _) (Nat.le_refl _) ?_; intro v1 w2 ho6 hb hg_ hnew_; clear hg_ hnew_; (first | rw [← Y1.out] at ho6 | (simp only [Int.reduceToNat] at ho6; rw [← Y1.out] at ho6)); have O1 := Aside0.mk (Kd.R_lower (Kd.R_newM (M := fun k_ => (w.heap.size ≤ k_)) ho6 (below_size zH) (fun k_ h_ => h_)) (below_size zH)); replace HB := sB hb; clear hb ho6)
 go_loopg [6, 14] k (fun kq v2 v3 w' => ∃ (x1 : List Int) (x2 : Int) (x3 : Int), v2 = .int .u32 x2 ∧ v3 = .int .i64 x3 ∧ Aside0 (N1subtract.l0 kq l0 l1 x1 x2 (l0.length : Int) x3 = some r) ∧ Aside0 (kq ≤ k) ∧ Aside0 (Kd.R (Kd.int .u32) 80 w' w.heap.size (fun k_ => (w.heap.size ≤ k_)) v1 x1) ∧ Aside0 (Below w.heap.size w w'))
 case atStart => exact ⟨(y1), (0), (0), zq1, zq1, H', ⟨Nat.le_refl _⟩, ⟨zq20⟩, ⟨zH⟩⟩
 case round =>
  clear H'
  obtain ⟨x1, x2, x3, rfl, rfl, HA, HK1, HO_5, HB⟩ := hrel
  cases gk with
  | zero => exact absurd HA.out (by simp [N1subtract.l0])
  | succ k1 =>
   have H := HA.out
   clear HA
   simp only [N1subtract.l0] at H
   replace H := iL H
   rcases H with ⟨c4b0, H⟩ | ⟨c4b0, H⟩
   ·replace H := iL H
    rcases H with ⟨c5b0, H⟩ | ⟨c5b0, H⟩
    ·replace ⟨c6b0, H⟩ := iteD H
     replace ⟨c7b0, H⟩ := iteD H
     replace ⟨⟨t1, t2⟩, A2, H⟩ := bS H
     (try dsimp only at H)
     replace ⟨c8b0, H⟩ := iteD H
     generalize yh2 : (x1.set (x3 : Int).toNat t1 : List Int) = y2 at H
     have Y2 := Aside0.mk yh2.symm; clear yh2
     have H' := Aside0.mk H
     clear H
     obtain ⟨ad1, e1, hx1, p1, q1⟩ := atI HR1.out x3
     cases e1
     (try replace hx1 := hM HB hx1)
     obtain ⟨ad2, e2, hx2, p2, q2⟩ := atI HR0.out x3
     cases e2
     (try replace hx2 := hM HB hx2)
     go_wp2_with (first | (refine gD 34 Tryz.func84 (bits_Sub32.calls _ _ _ _ _ _ A2.out) fun nd => ?_; (try (rw [drewN_self wr]; generalize hq_ : World.drewN wr _ = wr; have n0_ : Aside0 (Kd.R (Kd.int .u32) 80 wr w.heap.size (fun k_ => (w.heap.size ≤ k_)) v1 x1) := ⟨by rw [← hq_]; exact zq23⟩; have n1_ : Aside0 (Below w.heap.size w wr) := ⟨by rw [← hq_]; exact zH⟩; clear HO_5 HB hq_; have HO_5 := n0_; have HB := n1_; clear n0_ n1_)); have p3 : 0 ≤ (x3 : Int) := of_decide_eq_true zq0; have q3 : (x3 : Int) < ((x1.length : Int) : Int) := of_decide_eq_true zq0; obtain ⟨go1, d1, u1, g1, gl13, cl13, HG13⟩ := Kd.R_form HO_5.out (by omega); (first | cases u1 | (injection u1 with ea_ en_ ec_; (first | subst ea_ | (injection ea_ with ea_; subst ea_)); subst ec_; clear en_)); have GB1 := Aside0.mk g1; have GG13 := Aside0.mk HG13; clear g1 gl13 HG13; obtain ⟨hx3, hf13_0⟩ := Kd.R_celln 0 HO_5.out (x3 : Int) p3 q3; replace p3 := eq_true p3; replace q3 := eq_true q3; obtain ⟨hy14_, hz14_⟩ := Kd.R_celln 0 HO_5.out (x3 : Int) (of_decide_eq_true zq0) (of_decide_eq_true zq0); have HP1 := Kd.R_putg HO_5.out (x3 : Int) t1) | (refine stR 80 37 HP1 Y2 fun w3 hw hg hp_ => ?_; clear HP1; replace HO_5 := Aside0.mk (hp_); replace HB := bS2 hw HB GB1; clear hg hw hp_))
     go_roundg k1
     case measure => have := HK1.out; omega
     case rel => exact ⟨(y2), (t2), (wrap64 (x3 + 1)), zq1, zq1, H', ⟨zq4⟩, ⟨zR⟩, ⟨zH⟩⟩
    ·replace ⟨c6b0, H⟩ := iteD H
     replace ⟨c7b0, H⟩ := iteD H
     replace ⟨⟨t1, t2⟩, A2, H⟩ := bS H
     (try dsimp only at H)
     replace ⟨c8b0, H⟩ := iteD H
     generalize yh2 : (x1.set (x3 : Int).toNat t1 : List Int) = y2 at H
     have Y2 := Aside0.mk yh2.symm; clear yh2
     have H' := Aside0.mk H
     clear H
     obtain ⟨ad1, e1, hx1, p1, q1⟩ := atI HR0.out x3
     cases e1
     (try replace hx1 := hM HB hx1)
     go_wp2_with (first | (refine gD 34 Tryz.func84 (bits_Sub32.calls _ _ _ _ _ _ A2.out) fun nd => ?_; (try (rw [drewN_self wr]; generalize hq_ : World.drewN wr _ = wr; have n0_ : Aside0 (Kd.R (Kd.int .u32) 80 wr w.heap.size (fun k_ => (w.heap.size ≤ k_)) v1 x1) := ⟨by rw [← hq_]; exact zq23⟩; have n1_ : Aside0 (Below w.heap.size w wr) := ⟨by rw [← hq_]; exact zH⟩; clear HO_5 HB hq_; have HO_5 := n0_; have HB := n1_; clear n0_ n1_)); have p2 : 0 ≤ (x3 : Int) := of_decide_eq_true zq0; have q2 : (x3 : Int) < ((x1.length : Int) : Int) := of_decide_eq_true zq0; obtain ⟨go1, d1, u1, g1, gl20, cl20, HG20⟩ := Kd.R_form HO_5.out (by omega); (first | cases u1 | (injection u1 with ea_ en_ ec_; (first | subst ea_ | (injection ea_ with ea_; subst ea_)); subst ec_; clear en_)); have GB1 := Aside0.mk g1; have GG20 := Aside0.mk HG20; clear g1 gl20 HG20; obtain ⟨hx2, hf20_0⟩ := Kd.R_celln 0 HO_5.out (x3 : Int) p2 q2; replace p2 := eq_true p2; replace q2 := eq_true q2; obtain ⟨hy21_, hz21_⟩ := Kd.R_celln 0 HO_5.out (x3 : Int) (of_decide_eq_true zq0) (of_decide_eq_true zq0); have HP1 := Kd.R_putg HO_5.out (x3 : Int) t1) | (refine stR 80 37 HP1 Y2 fun w3 hw hg hp_ => ?_; clear HP1; replace HO_5 := Aside0.mk (hp_); replace HB := bS2 hw HB GB1; clear hg hw hp_))
     go_roundg k1
     case measure => have := HK1.out; omega
     case rel => exact ⟨(y2), (t2), (wrap64 (x3 + 1)), zq1, zq1, H', ⟨zq4⟩, ⟨zR⟩, ⟨zH⟩⟩
   ·replace ⟨t1, A2, H⟩ := bS H
    obtain rfl := sI H
    obtain ⟨P1, d1, u1⟩ := Kd.R_slice HO_5.out
    subst u1
    go_wp2_with (refine gR 40 Tryz.func79 (N1limbs_trim.calls k1 (fun k_ => some k_ = (.slice P1 x1.length d1 : Value).ownBlock) _ _ x1 t1 _ ?side1 A2.out) fun v4 w3 ho0 hb => ?_; (case side1 => exact Kd.R_V (Kd.R_tight rfl (HO_5.out))); have O2 := Aside0.mk (Kd.V_lower (Kd.V_mono (ok' := fun k_ => (w.heap.size ≤ k_)) ho0 (fun k_ hk_ => Or.elim hk_ (fun hs_ => ((HO_5.out).1 k_ hs_.symm)) (fun hn_ => (Nat.le_trans (below_size zH) hn_)))) (below_size zH)); replace HO_5 := rB HO_5 hb; replace HB := sB hb; (try clear hb); (try clear ho0))
    go_ret
    exact ⟨_, zE, zV, zH⟩
def N1Subtract.f (k : Nat) (a0 a1 : ByteArray) : Option (ByteArray × Bool) := (N1parse.f k a0).bind fun t279 => ((N1parse.f k a1).bind fun t282 => ((N1compare.f k t279 t282).bind fun t285 => (if t285 < 0 then (some ((⟨#[]⟩ : ByteArray), false)) else ((N1subtract.f k t279 t282).bind fun t286 => ((N1limbs_text.f k t286).bind fun t289 => (some (t289, true)))))))
theorem N1Subtract.calls (k : Nat) (a0 a1 r1 : ByteArray) (r2 : Bool) (w : World) (H : N1Subtract.f k a0 a1 = some (r1, r2)) :
 Calls Tryz.prog 58 #[.string a0, .string a1] w fun e w' => e = .returned (.tuple #[.string r1, .bool r2]) ∧ Below w.heap.size w w' := by
 have HB := Aside0.mk (Below.refl w.heap.size w)
 unfold N1Subtract.f at H
 replace ⟨t1, A1, H⟩ := bS H
 replace ⟨t2, A2, H⟩ := bS H
 replace ⟨t3, A3, H⟩ := bS H
 replace H := iL H
 rcases H with ⟨c1b0, H⟩ | ⟨c1b0, H⟩
 ·simp only [Option.some.injEq, Prod.mk.injEq] at H
  obtain ⟨rfl, rfl⟩ := H
  go_enter Tryz.func58, Tryz.ntmps58
  go_wp2_with (first | (refine gR 9 Tryz.func63 (N1parse.calls _ _ _ _ A1.out) fun v1 w1 ho0 hb => ?_; have O1 := Aside0.mk (Kd.V_lower (Kd.V_mono (ok' := fun k_ => True) ho0 (fun k_ hk_ => trivial)) (below_size zH)); replace HB := sB hb; (try clear hb); (try clear ho0)) | (refine gR 11 Tryz.func63 (N1parse.calls _ _ _ _ A2.out) fun v2 w2 ho0 hb => ?_; have O2 := Aside0.mk (Kd.V_lower (Kd.V_mono (ok' := fun k_ => True) ho0 (fun k_ hk_ => trivial)) (below_size zH)); replace O1 := vB O1 hb; replace HB := sB hb; (try clear hb); (try clear ho0); obtain ⟨P1, d1, u1⟩ := Kd.V_slice O1.out; subst u1; obtain ⟨P2, d2, u2⟩ := Kd.V_slice O2.out; subst u2) | (refine gD 14 Tryz.func75 (N1compare.calls k _ _ t1 _ _ t2 t3 _ ?side1 ?side2 ?side3 ?side4 A3.out) fun nd => ?_; (case side1 => exact sC (Kd.V_reads' O1.out).2.2); (case side2 => exact (Kd.V_reads' O1.out).2.1); (case side3 => exact sC (Kd.V_reads' O2.out).2.2); (case side4 => exact (Kd.V_reads' O2.out).2.1)))
  go_ret2
  exact ⟨zE, zH⟩
 ·replace ⟨t4, A4, H⟩ := bS H
  replace ⟨t5, A5, H⟩ := bS H
  simp only [Option.some.injEq, Prod.mk.injEq] at H
  obtain ⟨rfl, rfl⟩ := H
  go_enter Tryz.func58, Tryz.ntmps58
  go_wp2_with (first | (refine gR 9 Tryz.func63 (N1parse.calls _ _ _ _ A1.out) fun v1 w1 ho0 hb => ?_; have O1 := Aside0.mk (Kd.V_lower (Kd.V_mono (ok' := fun k_ => True) ho0 (fun k_ hk_ => trivial)) (below_size zH)); replace HB := sB hb; (try clear hb); (try clear ho0)) | (refine gR 11 Tryz.func63 (N1parse.calls _ _ _ _ A2.out) fun v2 w2 ho0 hb => ?_; have O2 := Aside0.mk (Kd.V_lower (Kd.V_mono (ok' := fun k_ => True) ho0 (fun k_ hk_ => trivial)) (below_size zH)); replace O1 := vB O1 hb; replace HB := sB hb; (try clear hb); (try clear ho0); obtain ⟨P1, d1, u1⟩ := Kd.V_slice O1.out; subst u1; obtain ⟨P2, d2, u2⟩ := Kd.V_slice O2.out; subst u2) | (refine gD 14 Tryz.func75 (N1compare.calls k _ _ t1 _ _ t2 t3 _ ?side1 ?side2 ?side3 ?side4 A3.out) fun nd => ?_; (case side1 => exact sC (Kd.V_reads' O1.out).2.2); (case side2 => exact (Kd.V_reads' O1.out).2.1); (case side3 => exact sC (Kd.V_reads' O2.out).2.2); (case side4 => exact (Kd.V_reads' O2.out).2.1)) | (refine gR 18 Tryz.func76 (N1subtract.calls k _ _ t1 _ _ t2 t4 _ ?side1 ?side2 ?side3 ?side4 A4.out) fun v3 w3 ho0 hb => ?_; (case side1 => exact sC (Kd.V_reads' O1.out).2.2); (case side2 => exact (Kd.V_reads' O1.out).2.1); (case side3 => exact sC (Kd.V_reads' O2.out).2.2); (case side4 => exact (Kd.V_reads' O2.out).2.1); have O3 := Aside0.mk (Kd.V_lower (Kd.V_mono (ok' := fun k_ => True) ho0 (fun k_ hk_ => trivial)) (below_size zH)); replace O1 := vB O1 hb; replace O2 := vB O2 hb; replace HB := sB hb; (try clear hb); (try clear ho0); obtain ⟨P3, d3, u3⟩ := Kd.V_slice O3.out; subst u3) | (refine gB 19 Tryz.func64 (N1limbs_text.calls k _ _ t4 t5 _ ?side1 ?side2 A5.out) fun w4 hb HB => ?_; (case side1 => exact sC (Kd.V_reads' O3.out).2.2); (case side2 => exact (Kd.V_reads' O3.out).2.1); replace O1 := vB O1 hb; replace O2 := vB O2 hb; replace O3 := vB O3 hb; clear hb))
  go_ret2
  exact ⟨zE, zH⟩
def N1FromUint.f (k : Nat) (a0 : Int) : Option (ByteArray) := (N1limbs_text.f k (([(a0) % 4294967296, (a0 / 4294967296) % 4294967296] : List Int))).bind fun t293 => (some t293)
theorem N1FromUint.calls (k : Nat) (a0 : Int) (r : ByteArray) (w : World) (H : N1FromUint.f k a0 = some r) :
 Calls Tryz.prog 80 #[.int .u64 a0] w fun e w' => e = .returned (.string r) ∧ Below w.heap.size w w' := by
 have HB := Aside0.mk (Below.refl w.heap.size w)
 unfold N1FromUint.f at H
 generalize yh1 : (([(a0) % 4294967296, (a0 / 4294967296) % 4294967296] : List Int) : List Int) = y1 at H
 have Y1 := Aside0.mk yh1.symm; clear yh1
 replace ⟨t1, A1, H⟩ := bS H
 obtain rfl := sI H
 go_enter Tryz.func80, Tryz.ntmps80
 go_wp2_with (first | ((with_reducible refine gate_dst (N := 8) rfl ?_); refine Kd.R_lit (Kd.int .u32) _ 80 ?hg (N := 8) ?hd (xs := ([(a0) % 4294967296, (a0 / 4294967296) % 4294967296] : List Int)) (inner := [.int .u32 ((a0) % 4294967296), .int .u32 ((a0 / 4294967296) % 4294967296)]) (ok := fun _ => True) (okp := fun _ => True) ?hr ?hp (fun _ hk => hk) trivial (Below.refl _ _) (Nat.le_refl _) (by simp) ?_; (case hd => rfl); (case hg => rfl); (case hr => first | (go_simp; done) | (go_simp; rfl)); (case hp => exact (Reps.one (show Kd.M (Kd.int .u32) _ _ _ ((a0) % 4294967296) [.int .u32 ((a0) % 4294967296)] from rfl) (Reps.one (show Kd.M (Kd.int .u32) _ _ _ ((a0 / 4294967296) % 4294967296) [.int .u32 ((a0 / 4294967296) % 4294967296)] from rfl) (Reps.none _ _)))); intro v1 w1 ho4 hb hg_ hnew_; clear hg_ hnew_; (first | rw [← Y1.out] at ho4 | (simp only [Int.reduceToNat] at ho4; rw [← Y1.out] at ho4)); have O1 := Aside0.mk (Kd.R_lower ho4 (below_size zH)); replace HB := sB hb; clear hb ho4; obtain ⟨P1, d1, u1⟩ := Kd.R_slice O1.out; subst u1) | (refine gB 9 Tryz.func64 (N1limbs_text.calls k _ _ y1 t1 _ ?side1 ?side2 A1.out) fun w2 hb HB => ?_; (case side1 => exact sC (Kd.R_reads' O1.out).2.2); (case side2 => exact (Kd.R_reads' O1.out).2.1); replace O1 := rB O1 hb; clear hb))
 go_ret
 exact ⟨zE, zH⟩
end Go.Proofs.YtggfilmdfpmbmaaGreatDoor.QN
end
