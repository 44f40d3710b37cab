/-
  Steps and laws behind the statement that the claim's last text proves: the words of the walks, the walks of the Go functions (printed by a program of this session's own, then shortened by one), and what they compute. Conditions: stated at each theorem.
-/
import Derived.Test.YtggfilmdfpmbmaaGreatDoorP1
import Derived.Test.YtggfilmdfpmbmaaGreatDoorP0
section
namespace Go.Proofs.YtggfilmdfpmbmaaGreatDoor.QN
open Go.RowKit Go.Proofs.YtggfilmdfpmbmaaGreatDoorW.PrintWords Go.Proofs.YtggfilmdfpmbmaaGreatDoorW.PrintLast Go.Proofs.YtggfilmdfpmbmaaGreatDoorW.PrintMore
attribute [local go_sem] max2_int min2_int max_two min_two max_three min_three max_four min_four
set_option linter.unusedVariables false
set_option linter.unusedSimpArgs false
mutual
def R1long.l0 : Nat → List Int → List Int → Int → Int → Option (List Int × List Int)
 | 0, _, _, _, _ => none
 | k + 1, x0, x1, x6, x7 => if 0 ≤ (wrap64 (x6 - 1)) then (if (wrap64 (x6 - 1)) < (x1.length : Int) then (if 0 ≤ x7 then (if x7 ≤ 32 then (if (((rd x1 (wrap64 (x6 - 1))) * 2 ^ x7.toNat) % 4294967296) < 2147483648 then (R1long.l0 k x0 x1 x6 (IntKind.u64.wrap (x7 + 1))) else ((R1shifted.f k x0 x7).bind fun t360 => ((R1shifted.f k x1 x7).bind fun t363 => (if 0 ≤ x6 then (if x6 ≤ (t363.length : Int) then (if 0 ≤ (wrap64 ((wrap64 ((x0.length : Int) - x6)) + 1)) then (if (wrap64 ((wrap64 ((x0.length : Int) - x6)) + 1) : Int).toNat ≤ 70368744177664 then (R1long.l1 k x6 x7 t360 (t363.take (x6 : Int).toNat) (List.replicate (wrap64 ((wrap64 ((x0.length : Int) - x6)) + 1) : Int).toNat 0) (wrap64 ((x0.length : Int) - x6))) else (none)) else (none)) else (none)) else (none))))) else (none)) else (none)) else (none)) else (none)
def R1long.l1 : Nat → Int → Int → List Int → List Int → List Int → Int → Option (List Int × List Int)
 | 0, _, _, _, _, _, _ => none
 | k + 1, x6, x7, x8, x9, x10, x11 => if x11 ≥ 0 then (if 0 ≤ (wrap64 (x11 + x6)) then (if (wrap64 (x11 + x6)) < (x8.length : Int) then (if 0 ≤ (wrap64 ((wrap64 (x11 + x6)) - 1)) then (if (wrap64 ((wrap64 (x11 + x6)) - 1)) < (x8.length : Int) then (if 0 ≤ (wrap64 (x6 - 1)) then (if (wrap64 (x6 - 1)) < (x9.length : Int) then (if (IntKind.u64.wrap (rd x9 (wrap64 (x6 - 1)))) = 0 then (none) else (R1long.l2 k x6 x7 x8 x9 x10 x11 (IntKind.u64.wrap (Int.tdiv (Go.bits .or .u64 (IntKind.u64.wrap ((IntKind.u64.wrap (rd x8 (wrap64 (x11 + x6)))) * 4294967296)) (IntKind.u64.wrap (rd x8 (wrap64 ((wrap64 (x11 + x6)) - 1))))) (IntKind.u64.wrap (rd x9 (wrap64 (x6 - 1)))))) (Int.tmod (Go.bits .or .u64 (IntKind.u64.wrap ((IntKind.u64.wrap (rd x8 (wrap64 (x11 + x6)))) * 4294967296)) (IntKind.u64.wrap (rd x8 (wrap64 ((wrap64 (x11 + x6)) - 1))))) (IntKind.u64.wrap (rd x9 (wrap64 (x6 - 1))))))) else (none)) else (none)) else (none)) else (none)) else (none)) else (none)) else (if 0 ≤ x6 then (if (x6 : Int).toNat ≤ 70368744177664 then (R1long.l5 k x6 x7 x8 x10 (List.replicate (x6 : Int).toNat 0) 0) else (none)) else (none))
def R1long.j4 : Nat → Int → Int → List Int → List Int → List Int → Int → Int → Option (List Int × List Int)
 | 0, _, _, _, _, _, _, _ => none
 | k + 1, x6, x7, x8, x9, x10, x11, x13 => R1long.l3 k x6 x7 x8 x9 x10 x11 x13 0 0 0
def R1long.l3 : Nat → Int → Int → List Int → List Int → List Int → Int → Int → Int → Int → Int → Option (List Int × List Int)
 | 0, _, _, _, _, _, _, _, _, _, _ => none
 | k + 1, x6, x7, x8, x9, x10, x11, x13, x15, x16, x17 => if x17 < x6 then (if 0 ≤ x17 then (if x17 < (x9.length : Int) then (if 0 ≤ (wrap64 (x11 + x17)) then (if (wrap64 (x11 + x17)) < (x8.length : Int) then (if (IntKind.u64.wrap (rd x8 (wrap64 (x11 + x17)))) < (IntKind.u64.wrap ((Go.bits .and .u64 (IntKind.u64.wrap (x15 + (IntKind.u64.wrap (x13 * (IntKind.u64.wrap (rd x9 x17)))))) 4294967295) + x16)) then (R1long.l3 k x6 x7 (x8.set ((wrap64 (x11 + x17)) : Int).toNat ((IntKind.u64.wrap ((IntKind.u64.wrap ((IntKind.u64.wrap (rd x8 (wrap64 (x11 + x17)))) + 4294967296)) - (IntKind.u64.wrap ((Go.bits .and .u64 (IntKind.u64.wrap (x15 + (IntKind.u64.wrap (x13 * (IntKind.u64.wrap (rd x9 x17)))))) 4294967295) + x16)))) % 4294967296)) x9 x10 x11 x13 ((IntKind.u64.wrap (x15 + (IntKind.u64.wrap (x13 * (IntKind.u64.wrap (rd x9 x17)))))) / 4294967296) 1 (wrap64 (x17 + 1))) else (R1long.l3 k x6 x7 (x8.set ((wrap64 (x11 + x17)) : Int).toNat ((IntKind.u64.wrap ((IntKind.u64.wrap (rd x8 (wrap64 (x11 + x17)))) - (IntKind.u64.wrap ((Go.bits .and .u64 (IntKind.u64.wrap (x15 + (IntKind.u64.wrap (x13 * (IntKind.u64.wrap (rd x9 x17)))))) 4294967295) + x16)))) % 4294967296)) x9 x10 x11 x13 ((IntKind.u64.wrap (x15 + (IntKind.u64.wrap (x13 * (IntKind.u64.wrap (rd x9 x17)))))) / 4294967296) 0 (wrap64 (x17 + 1)))) else (none)) else (none)) else (none)) else (none)) else (if 0 ≤ (wrap64 (x11 + x6)) then (if (wrap64 (x11 + x6)) < (x8.length : Int) then ((some (x8.set ((wrap64 (x11 + x6)) : Int).toNat ((IntKind.u64.wrap ((IntKind.u64.wrap (rd x8 (wrap64 (x11 + x6)))) - (IntKind.u64.wrap (x15 + x16)))) % 4294967296) : List Int)).bind fun y384 => (if (IntKind.u64.wrap (rd x8 (wrap64 (x11 + x6)))) < (IntKind.u64.wrap (x15 + x16)) then (R1long.l4 k x6 x7 y384 x9 x10 x11 (IntKind.u64.wrap (x13 - 1)) 0 0) else (if 0 ≤ x11 then (if x11 < (x10.length : Int) then (R1long.l1 k x6 x7 y384 x9 (x10.set (x11 : Int).toNat ((x13) % 4294967296)) (wrap64 (x11 - 1))) else (none)) else (none)))) else (none)) else (none))
def R1long.l4 : Nat → Int → Int → List Int → List Int → List Int → Int → Int → Int → Int → Option (List Int × List Int)
 | 0, _, _, _, _, _, _, _, _, _ => none
 | k + 1, x6, x7, x8, x9, x10, x11, x13, x15, x23 => if x23 < x6 then (if 0 ≤ (wrap64 (x11 + x23)) then (if (wrap64 (x11 + x23)) < (x8.length : Int) then (if 0 ≤ x23 then (if x23 < (x9.length : Int) then (R1long.l4 k x6 x7 (x8.set ((wrap64 (x11 + x23)) : Int).toNat ((IntKind.u64.wrap ((IntKind.u64.wrap (x15 + (IntKind.u64.wrap (rd x8 (wrap64 (x11 + x23)))))) + (IntKind.u64.wrap (rd x9 x23)))) % 4294967296)) x9 x10 x11 x13 ((IntKind.u64.wrap ((IntKind.u64.wrap (x15 + (IntKind.u64.wrap (rd x8 (wrap64 (x11 + x23)))))) + (IntKind.u64.wrap (rd x9 x23)))) / 4294967296) (wrap64 (x23 + 1))) else (none)) else (none)) else (none)) else (none)) else (if 0 ≤ (wrap64 (x11 + x6)) then (if (wrap64 (x11 + x6)) < (x8.length : Int) then (if 0 ≤ x11 then (if x11 < (x10.length : Int) then (R1long.l1 k x6 x7 (x8.set ((wrap64 (x11 + x6)) : Int).toNat (((rd x8 (wrap64 (x11 + x6))) + ((x15) % 4294967296)) % 4294967296)) x9 (x10.set (x11 : Int).toNat ((x13) % 4294967296)) (wrap64 (x11 - 1))) else (none)) else (none)) else (none)) else (none))
def R1long.l2 : Nat → Int → Int → List Int → List Int → List Int → Int → Int → Int → Option (List Int × List Int)
 | 0, _, _, _, _, _, _, _, _ => none
 | k + 1, x6, x7, x8, x9, x10, x11, x13, x14 => if x13 ≥ 4294967296 then (R1long.j3 k x6 x7 x8 x9 x10 x11 x13 x14 true) else (if 0 ≤ (wrap64 (x6 - 2)) then (if (wrap64 (x6 - 2)) < (x9.length : Int) then (if 0 ≤ (wrap64 ((wrap64 (x11 + x6)) - 2)) then (if (wrap64 ((wrap64 (x11 + x6)) - 2)) < (x8.length : Int) then (R1long.j3 k x6 x7 x8 x9 x10 x11 x13 x14 (decide ((IntKind.u64.wrap (x13 * (IntKind.u64.wrap (rd x9 (wrap64 (x6 - 2)))))) > (Go.bits .or .u64 (IntKind.u64.wrap (x14 * 4294967296)) (IntKind.u64.wrap (rd x8 (wrap64 ((wrap64 (x11 + x6)) - 2)))))))) else (none)) else (none)) else (none)) else (none))
def R1long.j3 : Nat → Int → Int → List Int → List Int → List Int → Int → Int → Int → Bool → Option (List Int × List Int)
 | 0, _, _, _, _, _, _, _, _, _ => none
 | k + 1, x6, x7, x8, x9, x10, x11, x13, x14, x116 => if x116 = true then (if 0 ≤ (wrap64 (x6 - 1)) then (if (wrap64 (x6 - 1)) < (x9.length : Int) then (if (IntKind.u64.wrap (x14 + (IntKind.u64.wrap (rd x9 (wrap64 (x6 - 1)))))) ≥ 4294967296 then (R1long.j4 k x6 x7 x8 x9 x10 x11 (IntKind.u64.wrap (x13 - 1))) else (R1long.l2 k x6 x7 x8 x9 x10 x11 (IntKind.u64.wrap (x13 - 1)) (IntKind.u64.wrap (x14 + (IntKind.u64.wrap (rd x9 (wrap64 (x6 - 1)))))))) else (none)) else (none)) else (R1long.j4 k x6 x7 x8 x9 x10 x11 x13)
def R1long.l5 : Nat → Int → Int → List Int → List Int → List Int → Int → Option (List Int × List Int)
 | 0, _, _, _, _, _, _ => none
 | k + 1, x6, x7, x8, x10, x24, x25 => if x25 < x6 then (if 0 ≤ (wrap64 (x25 + 1)) then (if (wrap64 (x25 + 1)) < (x8.length : Int) then (if 0 ≤ x25 then (if x25 < (x8.length : Int) then (if 0 ≤ x7 then (if x7 ≤ 64 then (if x25 < (x24.length : Int) then (R1long.l5 k x6 x7 x8 x10 (x24.set (x25 : Int).toNat (((Go.bits .or .u64 (IntKind.u64.wrap ((IntKind.u64.wrap (rd x8 (wrap64 (x25 + 1)))) * 4294967296)) (IntKind.u64.wrap (rd x8 x25))) / 2 ^ x7.toNat) % 4294967296)) (wrap64 (x25 + 1))) else (none)) else (none)) else (none)) else (none)) else (none)) else (none)) else (none)) else ((R1strip.f k x10).bind fun t398 => ((R1strip.f k x24).bind fun t401 => (some (t398, t401))))
end
def R1long.f (k : Nat) (l0 l1 : List Int) : Option (List Int × List Int) := R1long.l0 k l0 l1 (l1.length : Int) 0
def R1long.T11 : Bool × List (List Nat × List Nat) := (true, [([], []), ([], []), ([], []), ([1, 2], [1, 2]), ([0, 3], [0, 3]), ([4], [4]), ([5], [5]), ([6], [6]), ([], []), ([], []), ([], []), ([9, 10], [9, 10]), ([11], [11]), ([8, 12], [8, 12]), ([13], [13]), ([14], [14]), ([7, 15], [7, 15]), ([16, 0, 1, 2, 3, 4, 5, 6, 7, 8, 9, 10, 11, 12, 13, 14, 15, 16], [16])])
def R1long.B11 : List Nat := [0, 0, 0, 6, 15, 31, 63, 127, 0, 0, 0, 1536, 3584, 7936, 16128, 32512, 65535, 131071]
theorem R1long.tab11 : rtab .any (opsOf Tryz.f82 11) = R1long.T11 := by kernel_rfl
theorem R1long.bits11 : waitsOk R1long.T11.2 R1long.B11 = true := by kernel_rfl
def R1long.T14 : Bool × List (List Nat × List Nat) := (true, [([], []), ([0], [0]), ([1], [1]), ([2], [2]), ([2], [2]), ([2], [2]), ([5, 2], [2, 5]), ([4, 6, 2], [2, 4, 6]), ([7, 2], [2, 7]), ([8, 2], [2, 8]), ([3, 9, 2], [2, 3, 9]), ([2], [2]), ([11, 2], [2, 11]), ([2], [2]), ([2], [2]), ([2], [2]), ([14, 15, 2], [2, 14, 15]), ([16, 2], [2, 16]), ([13, 17, 2], [2, 13, 17]), ([18, 2], [2, 18]), ([19, 2], [2, 19]), ([12, 20, 2], [2, 12, 20]), ([10, 21, 2], [2, 10, 21]), ([2, 22], [2, 22])])
def R1long.B14 : List Nat := [0, 1, 3, 7, 7, 7, 39, 119, 247, 503, 1023, 7, 2055, 7, 7, 7, 49159, 114695, 253959, 516103, 1040391, 2095111, 4194303, 8388607]
theorem R1long.tab14 : rtab .any (opsOf Tryz.f82 14) = R1long.T14 := by kernel_rfl
theorem R1long.bits14 : waitsOk R1long.T14.2 R1long.B14 = true := by kernel_rfl
def R1long.T42 : Bool × List (List Nat × List Nat) := (true, [([], []), ([], []), ([], []), ([], []), ([2, 3], [2, 3]), ([1, 4], [1, 4]), ([5], [5]), ([6], [6]), ([0, 7], [0, 7]), ([], []), ([], []), ([9, 10], [9, 10]), ([11], [11]), ([12], [12]), ([8, 13], [8, 13]), ([14, 0, 1, 2, 3, 4, 5, 6, 7, 8, 9, 10, 11, 12, 13, 14], [0, 14])])
def R1long.B42 : List Nat := [0, 0, 0, 0, 12, 30, 62, 126, 255, 0, 0, 1536, 3584, 7680, 16383, 32767]
theorem R1long.tab42 : rtab .any (opsOf Tryz.f82 42) = R1long.T42 := by kernel_rfl
theorem R1long.bits42 : waitsOk R1long.T42.2 R1long.B42 = true := by kernel_rfl
def R1long.T51 : Bool × List (List Nat × List Nat) := (true, [([], []), ([], []), ([], []), ([], []), ([3], [3]), ([2, 4], [2, 4]), ([5], [5]), ([6], [6]), ([7], [7]), ([], []), ([], []), ([9, 10], [9, 10]), ([11], [11]), ([12], [12]), ([8, 13], [8, 13]), ([], []), ([14, 15], [14, 15]), ([16], [16]), ([0, 1, 0, 1, 2, 3, 4, 5, 6, 7, 8, 9, 10, 11, 12, 13, 14, 15, 16, 17], [0, 1]), ([18, 17, 0, 1, 2, 3, 4, 5, 6, 7, 8, 9, 10, 11, 12, 13, 14, 15, 16, 17], [17, 18])])
def R1long.B51 : List Nat := [0, 0, 0, 0, 8, 28, 60, 124, 252, 0, 0, 1536, 3584, 7680, 16380, 0, 65532, 131068, 262143, 524287]
theorem R1long.tab51 : rtab .any (opsOf Tryz.f82 51) = R1long.T51 := by kernel_rfl
theorem R1long.bits51 : waitsOk R1long.T51.2 R1long.B51 = true := by kernel_rfl
set_option maxHeartbeats 80000000 in
set_option maxRecDepth 100000 in
theorem R1long.calls (k : Nat) (A0 : Option Addr) (c0 : Nat) (l0 : List Int) (A1 : Option Addr) (c1 : Nat) (l1 r1 r2 : List Int) (w : World) (hr0 : Kd.C (Kd.int .u32) w A0 l0.length l0) (hc0 : l0.length ≤ c0) (hr1 : Kd.C (Kd.int .u32) w A1 l1.length l1) (hc1 : l1.length ≤ c1) (H : R1long.f k l0 l1 = some (r1, r2)) :
 Calls Tryz.prog 82 #[.slice A0 l0.length c0, .slice A1 l1.length c1] w fun e w' => ∃ v0_ v1_ : Value, e = .returned (.tuple #[v0_, v1_]) ∧ Kd.V (Kd.int .u32) 80 w' w.heap.size (fun k_ => (w.heap.size ≤ k_)) v0_ r1 ∧ Kd.V (Kd.int .u32) 80 w' w.heap.size (fun k_ => (w.heap.size ≤ k_)) v1_ r2 ∧ Below w.heap.size w w' := by
 have HR0 := Aside0.mk hr0
 have HC0 := Aside0.mk hc0
 clear hr0 hc0
 have HR1 := Aside0.mk hr1
 have HC1 := Aside0.mk hc1
 clear hr1 hc1
 have HB := Aside0.mk (Below.refl w.heap.size w)
 unfold R1long.f at H
 have H' := Aside0.mk H
 clear H
 go_enter Tryz.func82, Tryz.ntmps82
 go_wp2
 go_loopg [7] k (fun kq v2 w' => ∃ (x1 : Int), v2 = .int .u64 x1 ∧ Aside0 (R1long.l0 kq l0 l1 (l1.length : Int) x1 = some (r1, r2)) ∧ Aside0 (kq ≤ k) ∧ Aside0 (Below w.heap.size w w'))
 case atStart => exact ⟨(0), zq1, H', ⟨Nat.le_refl _⟩, ⟨zH⟩⟩
 case round =>
  clear H'
  obtain ⟨x1, rfl, HA, HK1, HB⟩ := hrel
  cases gk with
  | zero => exact absurd HA.out (by simp [R1long.l0])
  | succ k1 =>
   have H := HA.out
   clear HA
   simp only [R1long.l0] at H
   obtain ⟨j1, jh1, jh1w⟩ := jI ((l1.length : Int) - 1)
   first | rw [jh1] at H | simp only [jh1] at H
   replace ⟨c2b0, H⟩ := iteD H
   replace ⟨c3b0, H⟩ := iteD H
   replace ⟨c4b0, c4b1, H⟩ := iteE H
   replace ⟨c5b0, c5b1, H⟩ := iteE H
   replace H := iL H
   rcases H with ⟨c6b0, H⟩ | ⟨c6b0, H⟩
   ·have H' := Aside0.mk H
    clear H
    obtain ⟨ad1, e1, hx1, p1, q1⟩ := atI HR1.out (j1)
    cases e1
    (try replace hx1 := hM HB hx1)
    go_wp2
    first | go_roundg k1 | (simp only [← add_plain _ j2.toNat, ← add_plain _ j5.toNat]; go_roundg k1)
    case measure => have := HK1.out; omega
    case rel => exact ⟨(IntKind.u64.wrap (x1 + 1)), zq1, H', ⟨zq4⟩, ⟨zH⟩⟩
   ·replace ⟨t1, A2, H⟩ := bS H
    replace ⟨t2, A3, H⟩ := bS H
    replace ⟨c7b0, c7b1, H⟩ := iteE H
    replace ⟨c8b0, c8b1, H⟩ := iteE H
    generalize yh1 : (t2.take ((l1.length : Int) : Int).toNat : List Int) = y1 at H
    have Y1 := Aside0.mk yh1.symm; clear yh1
    obtain ⟨j2, jh2, jh2w⟩ := jI ((wrap64 ((l0.length : Int) - (l1.length : Int))) + 1)
    first | rw [jh2] at H | simp only [jh2] at H
    (try rw [jh2] at A2)
    (try rw [jh2] at A3)
    replace ⟨c9b0, c9b1, H⟩ := iteE H
    replace ⟨c10b0, c10b1, H⟩ := iteE H
    generalize yh2 : (List.replicate (j2 : Int).toNat 0 : List Int) = y2 at H
    have Y2 := Aside0.mk yh2.symm; clear yh2
    have H' := Aside0.mk H
    clear H
    obtain ⟨ad1, e1, hx1, p1, q1⟩ := atI HR1.out (j1)
    cases e1
    (try replace hx1 := hM HB hx1)
    go_wp2_with (first | (refine gR 40 Tryz.func94 (R1shifted.calls k1 _ _ l0 x1 t1 _ ?side1 ?side2 A2.out) fun v3 w2 ho0 hb => ?_; (case side1 => exact sC (Kd.C_below HR0.out HB.out)); (case side2 => exact HC0.out); have O1 := Aside0.mk (Kd.R_lower (Kd.R_newM (M := fun k_ => (w.heap.size ≤ k_)) ho0 (below_size zH) (fun k_ h_ => h_)) (below_size zH)); replace HB := sB hb; (try clear hb); (try clear ho0)) | (refine gR 43 Tryz.func94 (R1shifted.calls k1 _ _ l1 x1 t2 _ ?side1 ?side2 A3.out) fun v4 w3 ho0 hb => ?_; (case side1 => exact sC (Kd.C_below HR1.out HB.out)); (case side2 => exact HC1.out); have O2 := Aside0.mk (Kd.R_lower (Kd.R_new' (Kd.R_newM (M := fun k_ => (w.heap.size ≤ k_)) ho0 (below_size zH) (fun k_ h_ => h_)) (Kd.R_lt zq2)) (below_size zH)); replace O1 := Aside0.mk (Kd.R_elder' zq2 (Kd.R_base ho0) hb); replace HB := sB hb; (try clear hb); (try clear ho0); obtain ⟨P1, d1, u1⟩ := Kd.R_slice O2.out; subst u1; have q2 : ((l1.length : Int) : Int) ≤ ((t2.length : Int) : Int) := of_decide_eq_true zq0; obtain ⟨i019, hi019, _, hsz19, _⟩ := info_parts info80; have hcut19 := cut_to (P := Tryz.prog) 62 80 .i64 Tryz.underlying62 hi019 P1 t2.length d1 (l1.length : Int) (of_decide_eq_true zq0) q2 (Kd.R_reads' O2.out).2.1; have hr19 := Kd.R_take (m := ((l1.length : Int) : Int).toNat) O2.out (by omega); have yh3 : y1.length = ((l1.length : Int) : Int).toNat := (by rw [Y1.out, List.length_take]; omega); rw [← Y1.out] at hr19; rw [← yh3] at hr19 hcut19; clear yh3 hi019 hsz19 O2; have O3 := Aside0.mk hr19; clear hr19; replace q2 := eq_true q2) | ((with_reducible refine gate_dst (N := 51) rfl ?_); refine Kd.R_make (Kd.int .u32) _ 80 rfl (N := 51) rfl 62 _ _ rfl j2 rfl rfl Tryz.underlying62 (.int .u32 0) 4 info80 rfl (by decide) (by omega) 0 (ok := fun _ => True) (okp := fun _ => True) rfl (fun _ hk => hk) trivial (of_decide_eq_true zq0) (Nat.le_trans (Nat.mul_le_mul_right _ (of_decide_eq_true zq0 : j2.toNat ≤ 70368744177664)) (by omega)) (Below.refl _ _) (Nat.le_refl _) ?_; intro v5 w4 ho21 hb hg_ hnew_; clear hg_ hnew_; (first | rw [← Y2.out] at ho21 | (simp only [Int.reduceToNat] at ho21; rw [← Y2.out] at ho21)); have O4 := Aside0.mk (Kd.R_lower (Kd.R_new' (Kd.R_new' (Kd.R_newM (M := fun k_ => (w.heap.size ≤ k_)) ho21 (below_size zH) (fun k_ h_ => h_)) (Kd.R_lt zq2)) (Kd.R_lt zq8)) (below_size zH)); replace O1 := Aside0.mk (Kd.R_elder' zq2 (Kd.R_base ho21) hb); replace O3 := Aside0.mk (Kd.R_elder' zq8 (Kd.R_base ho21) hb); replace HB := sB hb; clear hb ho21))
    go_loopg [11] k1 (fun kq v6 w' => ∃ (x2 : List Int) (x3 : List Int) (x4 : Int), v6 = .int .i64 x4 ∧ Aside0 (R1long.l1 kq (l1.length : Int) x1 x2 y1 x3 x4 = some (r1, r2)) ∧ Aside0 (kq ≤ k1) ∧ Aside0 (Kd.R (Kd.int .u32) 80 w' w.heap.size (fun k_ => (w.heap.size ≤ k_) ∧ some k_ ≠ ((.slice P1 y1.length d1) : Value).ownBlock ∧ some k_ ≠ (v5 : Value).ownBlock) v3 x2) ∧ Aside0 (Kd.R (Kd.int .u32) 80 w' w.heap.size (fun k_ => (w.heap.size ≤ k_) ∧ some k_ ≠ (v3 : Value).ownBlock ∧ some k_ ≠ (v5 : Value).ownBlock) (.slice P1 y1.length d1) y1) ∧ Aside0 (Kd.R (Kd.int .u32) 80 w' w.heap.size (fun k_ => (w.heap.size ≤ k_) ∧ some k_ ≠ (v3 : Value).ownBlock ∧ some k_ ≠ ((.slice P1 y1.length d1) : Value).ownBlock) v5 x3) ∧ Aside0 (Below w.heap.size w w'))
    case atStart => exact ⟨(t1), (y2), (wrap64 ((l0.length : Int) - (l1.length : Int))), zq1, H', ⟨Nat.le_refl _⟩, ⟨by (with_reducible repeat (first | apply Kd.R_alloc | apply Kd.R_drewN | apply Kd.R_drew)); exact Kd.R_mono O1.out (fun _ hk => by (try simp only [own_len P1 (t2.length) (y1.length) d1] at hk); exact ⟨hk.1.1.1, ⟨hk.1.2, hk.2⟩⟩)⟩, ⟨by (with_reducible repeat (first | apply Kd.R_alloc | apply Kd.R_drewN | apply Kd.R_drew)); exact Kd.R_mono O3.out (fun _ hk => by (try simp only [own_len P1 (t2.length) (y1.length) d1] at hk); exact ⟨hk.1.1.1, ⟨hk.1.2, hk.2⟩⟩)⟩, ⟨by (with_reducible repeat (first | apply Kd.R_alloc | apply Kd.R_drewN | apply Kd.R_drew)); exact Kd.R_mono O4.out (fun _ hk => by (try simp only [own_len P1 (t2.length) (y1.length) d1] at hk); exact ⟨hk.1.1.1, ⟨hk.1.2, hk.2⟩⟩)⟩, ⟨zH⟩⟩
    case round =>
     clear H'
     obtain ⟨x2, x3, x4, rfl, HA, HK2, HO_8, HO_9, HO_10, HB⟩ := hrel
     cases gk with
     | zero => exact absurd HA.out (by simp [R1long.l1])
     | succ k2 =>
      have H := HA.out
      clear HA
      simp only [R1long.l1] at H
      replace H := iL H
      rcases H with ⟨c11b0, H⟩ | ⟨c11b0, H⟩
      ·obtain ⟨j5, jh3, jh3w⟩ := jI (x4 + (l1.length : Int))
       first | rw [jh3] at H | simp only [jh3] at H
       replace ⟨c12b0, H⟩ := iteD H
       replace ⟨c13b0, H⟩ := iteD H
       obtain ⟨j6, jh4, jh4w⟩ := jI ((j5) - 1)
       first | rw [jh4] at H | simp only [jh4] at H
       replace ⟨c14b0, H⟩ := iteD H
       replace ⟨c15b0, H⟩ := iteD H
       obtain ⟨j7, jh5, jh5w⟩ := jI ((l1.length : Int) - 1)
       first | rw [jh5] at H | simp only [jh5] at H
       (try clear jh1w); (try clear jh1)
       replace ⟨c16b0, H⟩ := iteD H
       replace ⟨c17b0, H⟩ := iteD H
       by_cases c18 : (IntKind.u64.wrap (rd y1 (j7))) = 0
       ·rw [if_pos c18] at H
        exact absurd H (by simp)
       ·rw [if_neg c18] at H
        have c18b0 := beq_eq_false_iff_ne.mpr c18
        have c18b1 := bne_iff_ne.mpr c18
        have HC33 := Aside0.mk H
        clear H
        try go_wp2
        replace HO_8 := rD HO_8
        replace HO_9 := rD HO_9
        replace HO_10 := rD HO_10
        replace HB := hD HB
        obtain ⟨P2, d2, u2⟩ := Kd.R_slice HO_8.out
        (first | subst u2 | (injection u2 with f1_ f2_ f3_; have f4_ := f1_.symm; have f5_ := f3_.symm; clear f1_ f2_ f3_; subst f4_; subst f5_))
        obtain ⟨ad2, e2, hx2, p2, q3⟩ := atI (Kd.R_reads' HO_8.out).2.2 (j5)
        cases e2
        obtain ⟨ad3, e3, hx3, p3, q4⟩ := atI (Kd.R_reads' HO_8.out).2.2 (j6)
        obtain rfl : ad2 = ad3 := (by injection e3)
        refine startA 18 (S := fun w' => w'.cell? (ad2.add ((j5)).toNat) = some (.int .u32 (rd x2 (j5))) ∧ w'.cell? (ad2.add ((j6)).toNat) = some (.int .u32 (rd x2 (j6)))) (ds := []) ⟨hx2, hx3⟩ (fun hHeld => ?_); refine with_tabW R1long.tab11 R1long.bits11 (fun HT_ HW_ => ?_)
        generalize wr.drew = w5 at HO_8 HO_9 HO_10 HB hx2 hx3 hHeld ⊢
        refine pA 0 1 ?_
        refine pA 1 3 ?_
        refine pA 2 7 ?_
        refine pA 3 15 ?_
        refine pA 4 31 ?_
        refine pA 8 287 ?_
        refine pA 9 799 ?_
        refine pA 10 1823 ?_
        refine pA 11 3871 ?_
        refine pA 12 7967 ?_
        refine pA 13 16159 ?_
        refine tA 5 16191 hHeld ?_
        refine pA 6 16255 ?_
        refine pA 7 16383 ?_
        refine tA 14 32767 hHeld ?_
        refine pA 15 65535 ?_
        refine pA 16 131071 ?_
        refine pA 17 262143 ?_
        refine done_ (done_of HT_.out (by kernel_rfl)) ?_
        obtain ⟨ad4, e4, hx4, p4, q5⟩ := atI (Kd.R_reads' HO_9.out).2.2 (j7)
        cases e4
        obtain ⟨ad5, e5, hx5, p5, q6⟩ := atI (Kd.R_reads' HO_9.out).2.2 (j7)
        obtain rfl : ad4 = ad5 := (by injection e5)
        go_upto_block 4 with (fail)
        go_cut [13] (fun v7 wc => ∃ (kq : Nat) (x5 : Int), v7 = .int .u64 x5 ∧ Aside0 (R1long.j4 kq (l1.length : Int) x1 x2 y1 x3 x4 x5 = some (r1, r2)) ∧ Aside0 (kq ≤ k2) ∧ Aside0 (Kd.R (Kd.int .u32) 80 wc w.heap.size (fun k_ => (w.heap.size ≤ k_) ∧ some k_ ≠ ((.slice (some ad4) y1.length d1) : Value).ownBlock ∧ some k_ ≠ (v5 : Value).ownBlock) (.slice (some ad2) x2.length d2) x2) ∧ Aside0 (Kd.R (Kd.int .u32) 80 wc w.heap.size (fun k_ => (w.heap.size ≤ k_) ∧ some k_ ≠ ((.slice (some ad2) x2.length d2) : Value).ownBlock ∧ some k_ ≠ (v5 : Value).ownBlock) (.slice (some ad4) y1.length d1) y1) ∧ Aside0 (Kd.R (Kd.int .u32) 80 wc w.heap.size (fun k_ => (w.heap.size ≤ k_) ∧ some k_ ≠ ((.slice (some ad2) x2.length d2) : Value).ownBlock ∧ some k_ ≠ ((.slice (some ad4) y1.length d1) : Value).ownBlock) v5 x3) ∧ Aside0 (Below w.heap.size w wc))
        case first =>
         have H := HC33.out
         clear HC33
         have H' := Aside0.mk H
         clear H
         go_wp2
         go_loopg [13, 14] k2 (fun kq v7 v8 w' => ∃ (x6 : Int) (x7 : Int), v7 = .int .u64 x6 ∧ v8 = .int .u64 x7 ∧ Aside0 (R1long.l2 kq (l1.length : Int) x1 x2 y1 x3 x4 x6 x7 = some (r1, r2)) ∧ Aside0 (kq ≤ k2) ∧ Aside0 (Kd.R (Kd.int .u32) 80 w' w.heap.size (fun k_ => (w.heap.size ≤ k_) ∧ some k_ ≠ ((.slice (some ad4) y1.length d1) : Value).ownBlock ∧ some k_ ≠ (v5 : Value).ownBlock) (.slice (some ad2) x2.length d2) x2) ∧ Aside0 (Kd.R (Kd.int .u32) 80 w' w.heap.size (fun k_ => (w.heap.size ≤ k_) ∧ some k_ ≠ ((.slice (some ad2) x2.length d2) : Value).ownBlock ∧ some k_ ≠ (v5 : Value).ownBlock) (.slice (some ad4) y1.length d1) y1) ∧ Aside0 (Kd.R (Kd.int .u32) 80 w' w.heap.size (fun k_ => (w.heap.size ≤ k_) ∧ some k_ ≠ ((.slice (some ad2) x2.length d2) : Value).ownBlock ∧ some k_ ≠ ((.slice (some ad4) y1.length d1) : Value).ownBlock) v5 x3) ∧ Aside0 (Below w.heap.size w w'))
         case atStart => exact ⟨(IntKind.u64.wrap (Int.tdiv (Go.bits .or .u64 (IntKind.u64.wrap ((IntKind.u64.wrap (rd x2 (j5))) * 4294967296)) (IntKind.u64.wrap (rd x2 (j6)))) (IntKind.u64.wrap (rd y1 (j7))))), (Int.tmod (Go.bits .or .u64 (IntKind.u64.wrap ((IntKind.u64.wrap (rd x2 (j5))) * 4294967296)) (IntKind.u64.wrap (rd x2 (j6)))) (IntKind.u64.wrap (rd y1 (j7)))), (by first | rfl | (simp; done) | (simp only [← jh3, ← jh4, ← jh5] <;> (first | rfl | simp)) | (simp [*]; done)), (by first | rfl | (simp; done) | (simp only [← jh3, ← jh4, ← jh5] <;> (first | rfl | simp)) | (simp [*]; done)), H', ⟨Nat.le_refl _⟩, ⟨zR⟩, ⟨zR⟩, ⟨zR⟩, ⟨zH⟩⟩
         case round =>
          clear H'
          obtain ⟨x6, x7, rfl, rfl, HA, HK3, HO_8, HO_9, HO_10, HB⟩ := hrel
          cases gk with
          | zero => exact absurd HA.out (by simp [R1long.l2])
          | succ k3 =>
           have H := HA.out
           clear HA
           simp only [R1long.l2] at H
           have HC36 := Aside0.mk H
           clear H
           go_upto_region 14 with (fail)
           go_cut [116] (fun v9 wc => ∃ (kq : Nat) (x8 : Bool), v9 = .bool x8 ∧ Aside0 (R1long.j3 kq (l1.length : Int) x1 x2 y1 x3 x4 x6 x7 x8 = some (r1, r2)) ∧ Aside0 (kq ≤ k3) ∧ Aside0 (Kd.R (Kd.int .u32) 80 wc w.heap.size (fun k_ => (w.heap.size ≤ k_) ∧ some k_ ≠ ((.slice (some ad4) y1.length d1) : Value).ownBlock ∧ some k_ ≠ (v5 : Value).ownBlock) (.slice (some ad2) x2.length d2) x2) ∧ Aside0 (Kd.R (Kd.int .u32) 80 wc w.heap.size (fun k_ => (w.heap.size ≤ k_) ∧ some k_ ≠ ((.slice (some ad2) x2.length d2) : Value).ownBlock ∧ some k_ ≠ (v5 : Value).ownBlock) (.slice (some ad4) y1.length d1) y1) ∧ Aside0 (Kd.R (Kd.int .u32) 80 wc w.heap.size (fun k_ => (w.heap.size ≤ k_) ∧ some k_ ≠ ((.slice (some ad2) x2.length d2) : Value).ownBlock ∧ some k_ ≠ ((.slice (some ad4) y1.length d1) : Value).ownBlock) v5 x3) ∧ Aside0 (Below w.heap.size w wc))
           case first =>
            have H := HC36.out
            clear HC36
            replace H := iL H
            rcases H with ⟨c19b0, H⟩ | ⟨c19b0, H⟩
            ·(first | rw [c19b0] | (simp only [i64_w, i32_w]; rw [c19b0]) | rw [c19b1] | skip)
             have H' := Aside0.mk H
             clear H
             try go_wp2
             replace HO_8 := rD HO_8
             replace HO_9 := rD HO_9
             replace HO_10 := rD HO_10
             replace HB := hD HB
             refine startA 24 (S := fun w' => True) (ds := []) trivial (fun hHeld => ?_); refine with_tabW R1long.tab14 R1long.bits14 (fun HT_ HW_ => ?_)
             generalize wr.drew = w6 at HO_8 HO_9 HO_10 HB hHeld ⊢
             refine pA 0 1 ?_
             refine pA 1 3 ?_
             refine pA 2 7 ?_
             refine uA 3 15 ?_
             refine uA 4 31 ?_
             refine uA 5 63 ?_
             refine uA 6 127 ?_
             refine uA 7 255 ?_
             refine uA 8 511 ?_
             refine uA 9 1023 ?_
             refine uA 10 2047 ?_
             refine uA 11 4095 ?_
             refine uA 12 8191 ?_
             refine uA 13 16383 ?_
             refine uA 14 32767 ?_
             refine uA 15 65535 ?_
             refine uA 16 131071 ?_
             refine uA 17 262143 ?_
             refine uA 18 524287 ?_
             refine uA 19 1048575 ?_
             refine uA 20 2097151 ?_
             refine uA 21 4194303 ?_
             refine uA 22 8388607 ?_
             refine pA 23 16777215 ?_
             refine done_ (done_of HT_.out (by kernel_rfl)) ?_
             try go_wp2
             go_meet
             case rel => exact ⟨_, (true), zq1, H', ⟨by have := HK1.out; have := HK2.out; have := HK3.out; first | omega | exact Nat.le_refl _⟩, ⟨zR⟩, ⟨zR⟩, ⟨zR⟩, ⟨zH⟩⟩
            ·(first | rw [c19b0] | (simp only [i64_w, i32_w]; rw [c19b0]) | rw [c19b1] | skip)
             obtain ⟨j8, jh6, jh6w⟩ := jI ((l1.length : Int) - 2)
             first | rw [jh6] at H | simp only [jh6] at H
             replace ⟨c20b0, H⟩ := iteD H
             replace ⟨c21b0, H⟩ := iteD H
             obtain ⟨j9, jh7, jh7w⟩ := jI ((wrap64 (x4 + (l1.length : Int))) - 2)
             first | rw [jh7] at H | simp only [jh7] at H
             (try have hji42vji23 : (wrap64 ((j5) - 2)) = j9 := by (rw [← jh3]; exact jh7))
             (try have hji42xji23 : (IntKind.i64.wrap ((j5) - 2)) = j9 := (i64_w _).trans hji42vji23)
             replace ⟨c22b0, H⟩ := iteD H
             replace ⟨c23b0, H⟩ := iteD H
             have H' := Aside0.mk H
             clear H
             try go_wp2
             replace HO_8 := rD HO_8
             replace HO_9 := rD HO_9
             replace HO_10 := rD HO_10
             replace HB := hD HB
             obtain ⟨ad6, e6, hx6, p6, q7⟩ := atI (Kd.R_reads' HO_9.out).2.2 (j8)
             obtain rfl : ad4 = ad6 := (by injection e6)
             obtain ⟨ad7, e7, hx7, p7, q8⟩ := atI (Kd.R_reads' HO_8.out).2.2 (j9)
             obtain rfl : ad2 = ad7 := (by injection e7)
             refine startA 24 (S := fun w' => w'.cell? (ad4.add ((j8)).toNat) = some (.int .u32 (rd y1 (j8))) ∧ w'.cell? (ad2.add ((j9)).toNat) = some (.int .u32 (rd x2 (j9)))) (ds := []) ⟨hx6, hx7⟩ (fun hHeld => ?_); refine with_tabW R1long.tab14 R1long.bits14 (fun HT_ HW_ => ?_)
             generalize wr.drew = w6 at HO_8 HO_9 HO_10 HB hx6 hx7 hHeld ⊢
             refine pA 0 1 ?_
             refine pA 1 3 ?_
             refine pA 2 7 ?_
             refine pA 3 15 ?_
             refine pA 4 31 ?_
             refine pA 5 63 ?_
             refine pA 6 127 ?_
             refine pA 7 255 ?_
             refine pA 11 2303 ?_
             refine pA 12 6399 ?_
             refine pA 13 14591 ?_
             refine pA 14 30975 ?_
             refine pA 15 63743 ?_
             refine pA 16 129279 ?_
             refine pA 17 260351 ?_
             refine pA 18 522495 ?_
             refine tA 8 522751 hHeld ?_
             refine pA 9 523263 ?_
             refine pA 10 524287 ?_
             refine tA 19 1048575 hHeld ?_
             refine pA 20 2097151 ?_
             refine pA 21 4194303 ?_
             refine pA 22 8388607 ?_
             refine pA 23 16777215 ?_
             refine done_ (done_of HT_.out (by kernel_rfl)) ?_
             try go_wp2
             go_meet
             case rel => exact ⟨_, (decide ((IntKind.u64.wrap (x6 * (IntKind.u64.wrap (rd y1 (j8))))) > (Go.bits .or .u64 (IntKind.u64.wrap (x7 * 4294967296)) (IntKind.u64.wrap (rd x2 (j9)))))), (by first | rfl | (simp; done) | (simp only [← jh6, ← jh7] <;> (first | rfl | simp)) | (simp [*]; done)), H', ⟨by have := HK1.out; have := HK2.out; have := HK3.out; first | omega | exact Nat.le_refl _⟩, ⟨zR⟩, ⟨zR⟩, ⟨zR⟩, ⟨zH⟩⟩
           case rest =>
            clear HC36
            obtain ⟨kq, x8, rfl, HA, HJ35, HO_8, HO_9, HO_10, HB⟩ := hcut
            cases kq with
            | zero => exact absurd HA.out (by simp [R1long.j3])
            | succ kj35 =>
             have H := HA.out
             clear HA
             simp only [R1long.j3] at H
             by_cases c20 : x8 = true
             ·subst c20
              rw [if_pos rfl] at H
              obtain ⟨j8, jh6, jh6w⟩ := jI ((l1.length : Int) - 1)
              first | rw [jh6] at H | simp only [jh6] at H
              (try clear jh1w); (try clear jh1); (try clear jh5w); (try clear jh5)
              replace ⟨c21b0, H⟩ := iteD H
              replace ⟨c22b0, H⟩ := iteD H
              replace H := iL H
              rcases H with ⟨c23b0, H⟩ | ⟨c23b0, H⟩
              ·have H' := Aside0.mk H
               clear H
               obtain ⟨ad6, e6, hx6, p6, q7⟩ := atI (Kd.R_reads' HO_9.out).2.2 (j8)
               obtain rfl : ad4 = ad6 := (by injection e6)
               go_wp2
               go_meet
               case rel => exact ⟨_, (IntKind.u64.wrap (x6 - 1)), zq1, H', ⟨by have := HK1.out; have := HK2.out; have := HK3.out; have := HJ35.out; first | omega | exact Nat.le_refl _⟩, ⟨zR⟩, ⟨zR⟩, ⟨zR⟩, ⟨zH⟩⟩
              ·have H' := Aside0.mk H
               clear H
               obtain ⟨ad6, e6, hx6, p6, q7⟩ := atI (Kd.R_reads' HO_9.out).2.2 (j8)
               obtain rfl : ad4 = ad6 := (by injection e6)
               go_wp2
               first | go_roundg kj35 | (simp only [← add_plain _ j5.toNat, ← add_plain _ j6.toNat]; go_roundg kj35)
               case measure => have := HK1.out; have := HK2.out; have := HK3.out; have := HJ35.out; omega
               case rel => exact ⟨(IntKind.u64.wrap (x6 - 1)), (IntKind.u64.wrap (x7 + (IntKind.u64.wrap (rd y1 (j8))))), zq1, (by first | rfl | (simp; done) | (simp only [← jh6] <;> (first | rfl | simp)) | (simp [*]; done)), H', ⟨by have := HK1.out; have := HK2.out; have := HK3.out; have := HJ35.out; omega⟩, ⟨zR⟩, ⟨zR⟩, ⟨zR⟩, ⟨zH⟩⟩
             ·replace c20 := Bool.eq_false_iff.mpr c20
              subst c20
              rw [if_neg (show ¬ (false = true) by decide)] at H
              have H' := Aside0.mk H
              clear H
              go_wp2
              go_meet
              case rel => exact ⟨_, (x6), zq1, H', ⟨by have := HK1.out; have := HK2.out; have := HK3.out; have := HJ35.out; first | omega | exact Nat.le_refl _⟩, ⟨zR⟩, ⟨zR⟩, ⟨zR⟩, ⟨zH⟩⟩
        case rest =>
         clear HC33
         obtain ⟨kq, x5, rfl, HA, HJ32, HO_8, HO_9, HO_10, HB⟩ := hcut
         cases kq with
         | zero => exact absurd HA.out (by simp [R1long.j4])
         | succ kj32 =>
          have H := HA.out
          clear HA
          simp only [R1long.j4] at H
          have H' := Aside0.mk H
          clear H
          go_wp2
          as_aux_lemma =>
           go_loopg [15, 16, 17] kj32 (fun kq v10 v11 v12 w' => ∃ (x9 : List Int) (x10 : Int) (x11 : Int) (x12 : Int), v10 = .int .u64 x10 ∧ v11 = .int .u64 x11 ∧ v12 = .int .i64 x12 ∧ Aside0 (R1long.l3 kq (l1.length : Int) x1 x9 y1 x3 x4 x5 x10 x11 x12 = some (r1, r2)) ∧ Aside0 (kq ≤ kj32) ∧ Aside0 (Kd.R (Kd.int .u32) 80 w' w.heap.size (fun k_ => (w.heap.size ≤ k_) ∧ some k_ ≠ ((.slice (some ad4) y1.length d1) : Value).ownBlock ∧ some k_ ≠ (v5 : Value).ownBlock) (.slice (some ad2) x2.length d2) x9) ∧ Aside0 (Kd.R (Kd.int .u32) 80 w' w.heap.size (fun k_ => (w.heap.size ≤ k_) ∧ some k_ ≠ ((.slice (some ad2) x2.length d2) : Value).ownBlock ∧ some k_ ≠ (v5 : Value).ownBlock) (.slice (some ad4) y1.length d1) y1) ∧ Aside0 (Kd.R (Kd.int .u32) 80 w' w.heap.size (fun k_ => (w.heap.size ≤ k_) ∧ some k_ ≠ ((.slice (some ad2) x2.length d2) : Value).ownBlock ∧ some k_ ≠ ((.slice (some ad4) y1.length d1) : Value).ownBlock) v5 x3) ∧ Aside0 (Below w.heap.size w w'))
           case atStart => exact ⟨(x2), (0), (0), (0), zq1, zq1, zq1, H', ⟨Nat.le_refl _⟩, ⟨zR⟩, ⟨zR⟩, ⟨zR⟩, ⟨zH⟩⟩
           case round =>
            clear H'
            obtain ⟨x9, x10, x11, x12, rfl, rfl, rfl, HA, HK4, HO_8, HO_9, HO_10, HB⟩ := hrel
            have hl8_4 := (Kd.R_reads' HO_8.out).1
            rw [hl8_4] at HO_8
            (try simp only [hl8_4])
            (try simp only [hl8_4] at HO_9)
            (try simp only [hl8_4] at HO_10)
            cases gk with
            | zero => exact absurd HA.out (by simp [R1long.l3])
            | succ k4 =>
             have H := HA.out
             clear HA
             simp only [R1long.l3] at H
             by_cases c21 : x12 < (l1.length : Int)
             ·rw [if_pos c21] at H
              have c21b0 := decide_eq_true c21
              (try (have c51x0 := c21b0; simp only [hl8_4] at c51x0))
              clear c21
              replace ⟨c22b0, H⟩ := iteD H
              replace H := of_ite H
              obtain ⟨c23, H⟩ := H
              have c23b0 := decide_eq_true c23
              (try (have c53x0 := c23b0; simp only [hl8_4] at c53x0))
              clear c23
              obtain ⟨j8, jh6, jh6w⟩ := jI (x4 + x12)
              first | rw [jh6] at H | simp only [jh6] at H
              replace ⟨c24b0, H⟩ := iteD H
              replace H := of_ite H
              obtain ⟨c25, H⟩ := H
              have c25b0 := decide_eq_true c25
              (try (have c56x0 := c25b0; simp only [hl8_4] at c56x0))
              clear c25
              replace H := iL H
              rcases H with ⟨c26b0, H⟩ | ⟨c26b0, H⟩
              ·generalize yh4 : (x9.set ((j8) : Int).toNat ((IntKind.u64.wrap ((IntKind.u64.wrap ((IntKind.u64.wrap (rd x9 (j8))) + 4294967296)) - (IntKind.u64.wrap ((Go.bits .and .u64 (IntKind.u64.wrap (x10 + (IntKind.u64.wrap (x5 * (IntKind.u64.wrap (rd y1 x12)))))) 4294967295) + x11)))) % 4294967296) : List Int) = y3 at H
               have Y3 := Aside0.mk yh4.symm; clear yh4
               have H' := Aside0.mk H
               clear H
               obtain ⟨ad6, e6, hx6, p6, q7⟩ := atI (Kd.R_reads' HO_9.out).2.2 x12
               obtain rfl : ad4 = ad6 := (by injection e6)
               obtain ⟨ad7, e7, hx7, p7, q8⟩ := atI (Kd.R_reads' HO_8.out).2.2 (j8)
               obtain rfl : ad2 = ad7 := (by injection e7)
               have p8 : 0 ≤ ((j8) : Int) := of_decide_eq_true zq0
               have q9 : ((j8) : Int) < ((x9.length : Int) : Int) := of_decide_eq_true zq0
               obtain ⟨go1, d3, u3, g1, gl58, cl58, HG58⟩ := Kd.R_form HO_8.out (by omega)
               (first | cases u3 | (injection u3 with ea_ en_ ec_; (first | subst ea_ | (injection ea_ with ea_; subst ea_)); subst ec_; clear en_))
               have GB1 := Aside0.mk g1
               have GG58 := Aside0.mk HG58
               clear g1 gl58 HG58
               (first | simp only [add_plain] at hx2 | skip)
               (first | simp only [add_plain] at hx3 | skip)
               (first | simp only [add_plain] at hx8 | skip)
               (first | simp only [add_plain] at hx7 | skip)
               obtain ⟨hx9, hf58_0⟩ := Kd.R_celln 0 HO_8.out ((j8) : Int) p8 q9
               (try simp only [Go.IntWalk.toNatUp] at hx9 hf58_0)
               replace p8 := eq_true p8
               replace q9 := eq_true q9
               have HP1 := Kd.R_putg HO_8.out ((j8) : Int) ((IntKind.u64.wrap ((IntKind.u64.wrap ((IntKind.u64.wrap (rd x9 (j8))) + 4294967296)) - (IntKind.u64.wrap ((Go.bits .and .u64 (IntKind.u64.wrap (x10 + (IntKind.u64.wrap (x5 * (IntKind.u64.wrap (rd y1 x12)))))) 4294967295) + x11)))) % 4294967296)
               go_wp2_with (refine stR 80 169 HP1 Y3 fun w6 hw hg hp_ => ?_; clear HP1; replace HO_8 := Aside0.mk (hp_); replace HO_9 := Aside0.mk (Kd.R_after (v := (.slice (some ⟨go1, 0, none⟩) x9.length d2)) (v1 := (.slice (some ⟨go1, 0, none⟩) x9.length d2)) (ok := (fun k_ => (w.heap.size ≤ k_) ∧ some k_ ≠ (v5 : Value).ownBlock)) zq24 hg (.inl rfl)); replace HO_10 := Aside0.mk (Kd.R_after (v := (.slice (some ⟨go1, 0, none⟩) x9.length d2)) (v1 := (.slice (some ⟨go1, 0, none⟩) x9.length d2)) (ok := (fun k_ => (w.heap.size ≤ k_) ∧ some k_ ≠ (.slice (some ad4) y1.length d1 : Value).ownBlock)) zq25 hg (.inl rfl)); replace HB := bS2 hw HB GB1; clear hg hw hp_)
               (try simp only [← hl8_4])
               first | go_roundg k4 | (simp only [← add_plain _ j5.toNat, ← add_plain _ j6.toNat]; go_roundg k4)
               case measure => have := HK1.out; have := HK2.out; have := HJ32.out; have := HK4.out; omega
               case rel => exact ⟨(y3), ((IntKind.u64.wrap (x10 + (IntKind.u64.wrap (x5 * (IntKind.u64.wrap (rd y1 x12)))))) / 4294967296), (1), (wrap64 (x12 + 1)), zq1, zq1, zq1, H', ⟨by have := HK1.out; have := HK2.out; have := HJ32.out; have := HK4.out; omega⟩, ⟨zq54⟩, ⟨zq55⟩, ⟨zq56⟩, ⟨zH⟩⟩
              ·generalize yh4 : (x9.set ((j8) : Int).toNat ((IntKind.u64.wrap ((IntKind.u64.wrap (rd x9 (j8))) - (IntKind.u64.wrap ((Go.bits .and .u64 (IntKind.u64.wrap (x10 + (IntKind.u64.wrap (x5 * (IntKind.u64.wrap (rd y1 x12)))))) 4294967295) + x11)))) % 4294967296) : List Int) = y3 at H
               have Y3 := Aside0.mk yh4.symm; clear yh4
               have H' := Aside0.mk H
               clear H
               obtain ⟨ad6, e6, hx6, p6, q7⟩ := atI (Kd.R_reads' HO_9.out).2.2 x12
               obtain rfl : ad4 = ad6 := (by injection e6)
               obtain ⟨ad7, e7, hx7, p7, q8⟩ := atI (Kd.R_reads' HO_8.out).2.2 (j8)
               obtain rfl : ad2 = ad7 := (by injection e7)
               have p8 : 0 ≤ ((j8) : Int) := of_decide_eq_true zq0
               have q9 : ((j8) : Int) < ((x9.length : Int) : Int) := of_decide_eq_true zq0
               obtain ⟨go1, d3, u3, g1, gl61, cl61, HG61⟩ := Kd.R_form HO_8.out (by omega)
               (first | cases u3 | (injection u3 with ea_ en_ ec_; (first | subst ea_ | (injection ea_ with ea_; subst ea_)); subst ec_; clear en_))
               have GB1 := Aside0.mk g1
               have GG61 := Aside0.mk HG61
               clear g1 gl61 HG61
               (first | simp only [add_plain] at hx7 | skip)
               obtain ⟨hx8, hf61_0⟩ := Kd.R_celln 0 HO_8.out ((j8) : Int) p8 q9
               (try simp only [Go.IntWalk.toNatUp] at hx8 hf61_0)
               replace p8 := eq_true p8
               replace q9 := eq_true q9
               have HP1 := Kd.R_putg HO_8.out ((j8) : Int) ((IntKind.u64.wrap ((IntKind.u64.wrap (rd x9 (j8))) - (IntKind.u64.wrap ((Go.bits .and .u64 (IntKind.u64.wrap (x10 + (IntKind.u64.wrap (x5 * (IntKind.u64.wrap (rd y1 x12)))))) 4294967295) + x11)))) % 4294967296)
               go_wp2_with (refine stR 80 169 HP1 Y3 fun w6 hw hg hp_ => ?_; clear HP1; replace HO_8 := Aside0.mk (hp_); replace HO_9 := Aside0.mk (Kd.R_after (v := (.slice (some ⟨go1, 0, none⟩) x9.length d2)) (v1 := (.slice (some ⟨go1, 0, none⟩) x9.length d2)) (ok := (fun k_ => (w.heap.size ≤ k_) ∧ some k_ ≠ (v5 : Value).ownBlock)) zq24 hg (.inl rfl)); replace HO_10 := Aside0.mk (Kd.R_after (v := (.slice (some ⟨go1, 0, none⟩) x9.length d2)) (v1 := (.slice (some ⟨go1, 0, none⟩) x9.length d2)) (ok := (fun k_ => (w.heap.size ≤ k_) ∧ some k_ ≠ (.slice (some ad4) y1.length d1 : Value).ownBlock)) zq25 hg (.inl rfl)); replace HB := bS2 hw HB GB1; clear hg hw hp_)
               (try simp only [← hl8_4])
               first | go_roundg k4 | (simp only [← add_plain _ j5.toNat, ← add_plain _ j6.toNat]; go_roundg k4)
               case measure => have := HK1.out; have := HK2.out; have := HJ32.out; have := HK4.out; omega
               case rel => exact ⟨(y3), ((IntKind.u64.wrap (x10 + (IntKind.u64.wrap (x5 * (IntKind.u64.wrap (rd y1 x12)))))) / 4294967296), (0), (wrap64 (x12 + 1)), zq1, zq1, zq1, H', ⟨by have := HK1.out; have := HK2.out; have := HJ32.out; have := HK4.out; omega⟩, ⟨zq54⟩, ⟨zq55⟩, ⟨zq56⟩, ⟨zH⟩⟩
             ·rw [if_neg c21] at H
              have c21b0 := decide_eq_false c21
              (try (have c51x0 := c21b0; simp only [hl8_4] at c51x0))
              clear c21
              obtain ⟨j8, jh6, jh6w⟩ := jI (x4 + (l1.length : Int))
              first | rw [jh6] at H | simp only [jh6] at H
              (try clear jh3w); (try clear jh3)
              replace ⟨c22b0, H⟩ := iteD H
              replace H := of_ite H
              obtain ⟨c23, H⟩ := H
              have c23b0 := decide_eq_true c23
              (try (have c66x0 := c23b0; simp only [hl8_4] at c66x0))
              clear c23
              replace ⟨y3, Y3, H⟩ := bY H
              replace H := iL H
              rcases H with ⟨c24b0, H⟩ | ⟨c24b0, H⟩
              ·have H' := Aside0.mk H
               clear H
               obtain ⟨ad6, e6, hx6, p6, q7⟩ := atI (Kd.R_reads' HO_8.out).2.2 (j8)
               obtain rfl : ad2 = ad6 := (by injection e6)
               have p7 : 0 ≤ ((j8) : Int) := of_decide_eq_true zq0
               have q8 : ((j8) : Int) < ((x9.length : Int) : Int) := of_decide_eq_true zq0
               obtain ⟨go1, d3, u3, g1, gl67, cl67, HG67⟩ := Kd.R_form HO_8.out (by omega)
               (first | cases u3 | (injection u3 with ea_ en_ ec_; (first | subst ea_ | (injection ea_ with ea_; subst ea_)); subst ec_; clear en_))
               have GB1 := Aside0.mk g1
               have GG67 := Aside0.mk HG67
               clear g1 gl67 HG67
               (first | simp only [add_plain] at hx6 | skip)
               obtain ⟨hx7, hf67_0⟩ := Kd.R_celln 0 HO_8.out ((j8) : Int) p7 q8
               (try simp only [Go.IntWalk.toNatUp] at hx7 hf67_0)
               replace p7 := eq_true p7
               replace q8 := eq_true q8
               have HP1 := Kd.R_putg HO_8.out ((j8) : Int) ((IntKind.u64.wrap ((IntKind.u64.wrap (rd x9 (j8))) - (IntKind.u64.wrap (x10 + x11)))) % 4294967296)
               go_wp2_with (refine stR 80 191 HP1 Y3 fun w6 hw hg hp_ => ?_; clear HP1; replace HO_8 := Aside0.mk (hp_); replace HO_9 := Aside0.mk (Kd.R_after (v := (.slice (some ⟨go1, 0, none⟩) x9.length d2)) (v1 := (.slice (some ⟨go1, 0, none⟩) x9.length d2)) (ok := (fun k_ => (w.heap.size ≤ k_) ∧ some k_ ≠ (v5 : Value).ownBlock)) zq24 hg (.inl rfl)); replace HO_10 := Aside0.mk (Kd.R_after (v := (.slice (some ⟨go1, 0, none⟩) x9.length d2)) (v1 := (.slice (some ⟨go1, 0, none⟩) x9.length d2)) (ok := (fun k_ => (w.heap.size ≤ k_) ∧ some k_ ≠ (.slice (some ad4) y1.length d1 : Value).ownBlock)) zq25 hg (.inl rfl)); replace HB := bS2 hw HB GB1; clear hg hw hp_)
               go_loopg [15, 23] k4 (fun kq v10 v13 w' => ∃ (x13 : List Int) (x14 : Int) (x15 : Int), v10 = .int .u64 x14 ∧ v13 = .int .i64 x15 ∧ Aside0 (R1long.l4 kq (l1.length : Int) x1 x13 y1 x3 x4 (IntKind.u64.wrap (x5 - 1)) x14 x15 = some (r1, r2)) ∧ Aside0 (kq ≤ k4) ∧ Aside0 (Kd.R (Kd.int .u32) 80 w' w.heap.size (fun k_ => (w.heap.size ≤ k_) ∧ some k_ ≠ ((.slice (some ad4) y1.length d1) : Value).ownBlock ∧ some k_ ≠ (v5 : Value).ownBlock) (.slice (some ⟨go1, 0, none⟩) x9.length d2) x13) ∧ Aside0 (Kd.R (Kd.int .u32) 80 w' w.heap.size (fun k_ => (w.heap.size ≤ k_) ∧ some k_ ≠ ((.slice (some ⟨go1, 0, none⟩) x9.length d2) : Value).ownBlock ∧ some k_ ≠ (v5 : Value).ownBlock) (.slice (some ad4) y1.length d1) y1) ∧ Aside0 (Kd.R (Kd.int .u32) 80 w' w.heap.size (fun k_ => (w.heap.size ≤ k_) ∧ some k_ ≠ ((.slice (some ⟨go1, 0, none⟩) x9.length d2) : Value).ownBlock ∧ some k_ ≠ ((.slice (some ad4) y1.length d1) : Value).ownBlock) v5 x3) ∧ Aside0 (Below w.heap.size w w'))
               case atStart => exact ⟨(y3), (0), (0), zq1, zq1, H', ⟨Nat.le_refl _⟩, ⟨zq54⟩, ⟨zq55⟩, ⟨zq56⟩, ⟨zH⟩⟩
               case round =>
                clear H'
                obtain ⟨x13, x14, x15, rfl, rfl, HA, HK5, HO_8, HO_9, HO_10, HB⟩ := hrel
                have hl8_5 := (Kd.R_reads' HO_8.out).1
                rw [hl8_5] at HO_8
                (try simp only [hl8_5])
                (try simp only [hl8_5] at HO_9)
                (try simp only [hl8_5] at HO_10)
                cases gk with
                | zero => exact absurd HA.out (by simp [R1long.l4])
                | succ k5 =>
                 have H := HA.out
                 clear HA
                 simp only [R1long.l4] at H
                 by_cases c25 : x15 < (l1.length : Int)
                 ·rw [if_pos c25] at H
                  have c25b0 := decide_eq_true c25
                  (try (have c71x0 := c25b0; simp only [hl8_4, hl8_5] at c71x0))
                  clear c25
                  obtain ⟨j9, jh7, jh7w⟩ := jI (x4 + x15)
                  first | rw [jh7] at H | simp only [jh7] at H
                  replace ⟨c26b0, H⟩ := iteD H
                  replace H := of_ite H
                  obtain ⟨c27, H⟩ := H
                  have c27b0 := decide_eq_true c27
                  (try (have c74x0 := c27b0; simp only [hl8_4, hl8_5] at c74x0))
                  clear c27
                  replace ⟨c28b0, H⟩ := iteD H
                  replace H := of_ite H
                  obtain ⟨c29, H⟩ := H
                  have c29b0 := decide_eq_true c29
                  (try (have c76x0 := c29b0; simp only [hl8_4, hl8_5] at c76x0))
                  clear c29
                  generalize yh4 : (x13.set ((j9) : Int).toNat ((IntKind.u64.wrap ((IntKind.u64.wrap (x14 + (IntKind.u64.wrap (rd x13 (j9))))) + (IntKind.u64.wrap (rd y1 x15)))) % 4294967296) : List Int) = y4 at H
                  have Y4 := Aside0.mk yh4.symm; clear yh4
                  have H' := Aside0.mk H
                  clear H
                  try go_wp2
                  replace HO_8 := rD HO_8
                  replace HO_9 := rD HO_9
                  replace HO_10 := rD HO_10
                  replace HB := hD HB
                  obtain ⟨ad7, e7, hx8, p8, q9⟩ := atI (Kd.R_reads' HO_8.out).2.2 (j9)
                  obtain rfl : (⟨go1, 0, none⟩ : Addr) = ad7 := (by injection e7)
                  (first | simp only [add_plain] at hx8 | simp only [add_at] at hx8 | simp only [Addr.add, Nat.zero_add] at hx8 | skip)
                  obtain ⟨ad8, e8, hx9, p9, q10⟩ := atI (Kd.R_reads' HO_9.out).2.2 x15
                  obtain rfl : ad4 = ad8 := (by injection e8)
                  refine startA 16 (S := fun w' => w'.cell? ⟨go1, ((j9)).toNat, none⟩ = some (.int .u32 (rd x13 (j9))) ∧ w'.cell? (ad4.add (x15).toNat) = some (.int .u32 (rd y1 x15))) (ds := []) ⟨hx8, hx9⟩ (fun hHeld => ?_); refine with_tabW R1long.tab42 R1long.bits42 (fun HT_ HW_ => ?_)
                  generalize wr.drew = w7 at HO_8 HO_9 HO_10 HB hx8 hx9 hHeld ⊢
                  refine pA 0 1 ?_
                  refine pA 1 3 ?_
                  refine pA 2 7 ?_
                  refine pA 3 15 ?_
                  refine pA 4 31 ?_
                  refine pA 5 63 ?_
                  refine pA 9 575 ?_
                  refine pA 10 1599 ?_
                  refine pA 11 3647 ?_
                  refine tA 6 3711 hHeld ?_
                  refine pA 7 3839 ?_
                  refine pA 8 4095 ?_
                  refine tA 12 8191 hHeld ?_
                  refine pA 13 16383 ?_
                  refine pA 14 32767 ?_
                  refine pA 15 65535 ?_
                  refine done_ (done_of HT_.out (by kernel_rfl)) ?_
                  have p10 : 0 ≤ ((j9) : Int) := of_decide_eq_true zq0
                  have q11 : ((j9) : Int) < ((x13.length : Int) : Int) := of_decide_eq_true zq0
                  obtain ⟨hx10, hf77_0⟩ := Kd.R_celln 0 HO_8.out ((j9) : Int) p10 q11
                  (try simp only [Go.IntWalk.toNatUp] at hx10 hf77_0)
                  replace p10 := eq_true p10
                  replace q11 := eq_true q11
                  obtain ⟨hy79_, hz79_⟩ := Kd.R_celln 0 HO_8.out ((j9) : Int) (of_decide_eq_true zq0) (of_decide_eq_true zq0)
                  (try simp only [Go.IntWalk.toNatUp] at hy79_ hz79_)
                  have HP2 := Kd.R_putg HO_8.out ((j9) : Int) ((IntKind.u64.wrap ((IntKind.u64.wrap (x14 + (IntKind.u64.wrap (rd x13 (j9))))) + (IntKind.u64.wrap (rd y1 x15)))) % 4294967296)
                  try go_wp2_with (refine stR 80 221 HP2 Y4 fun w8 hw hg hp_ => ?_; clear HP2; replace HO_8 := Aside0.mk (hp_); replace HO_9 := Aside0.mk (Kd.R_after (v := (.slice (some ⟨go1, 0, none⟩) x13.length d2)) (v1 := (.slice (some ⟨go1, 0, none⟩) x13.length d2)) (ok := (fun k_ => (w.heap.size ≤ k_) ∧ some k_ ≠ (v5 : Value).ownBlock)) zq24 hg (.inl rfl)); replace HO_10 := Aside0.mk (Kd.R_after (v := (.slice (some ⟨go1, 0, none⟩) x13.length d2)) (v1 := (.slice (some ⟨go1, 0, none⟩) x13.length d2)) (ok := (fun k_ => (w.heap.size ≤ k_) ∧ some k_ ≠ (.slice (some ad4) y1.length d1 : Value).ownBlock)) zq25 hg (.inl rfl)); replace HB := bS2 hw HB GB1; clear hg hw hp_)
                  (try simp only [← hl8_5])
                  first | go_roundg k5 | (simp only [← add_plain _ j5.toNat, ← add_plain _ j6.toNat]; go_roundg k5)
                  case measure => have := HK1.out; have := HK2.out; have := HJ32.out; have := HK4.out; have := HK5.out; omega
                  case rel => exact ⟨(y4), ((IntKind.u64.wrap ((IntKind.u64.wrap (x14 + (IntKind.u64.wrap (rd x13 (j9))))) + (IntKind.u64.wrap (rd y1 x15)))) / 4294967296), (wrap64 (x15 + 1)), (by first | rfl | (simp; done) | (simp only [← jh7] <;> (first | rfl | simp)) | (simp [*]; done)), zq1, H', ⟨by have := HK1.out; have := HK2.out; have := HJ32.out; have := HK4.out; have := HK5.out; omega⟩, ⟨by (try simp only [hl8_4]); (try simp only [hl8_5]); (with_reducible repeat (first | apply Kd.R_alloc | apply Kd.R_drewN | apply Kd.R_drew)); exact HO_8.out⟩, ⟨by (try simp only [hl8_4]); (try simp only [hl8_5]); (with_reducible repeat (first | apply Kd.R_alloc | apply Kd.R_drewN | apply Kd.R_drew)); exact Kd.R_mono HO_9.out (fun _ hk => by (try simp only [own_len P1 (t2.length) (y1.length) d1] at hk); exact ⟨hk.1.1, ⟨hk.2, hk.1.2⟩⟩)⟩, ⟨by (try simp only [hl8_4]); (try simp only [hl8_5]); (with_reducible repeat (first | apply Kd.R_alloc | apply Kd.R_drewN | apply Kd.R_drew)); exact Kd.R_mono HO_10.out (fun _ hk => by (try simp only [own_len P1 (t2.length) (y1.length) d1] at hk); exact ⟨hk.1.1, ⟨hk.2, hk.1.2⟩⟩)⟩, ⟨zH⟩⟩
                 ·rw [if_neg c25] at H
                  have c25b0 := decide_eq_false c25
                  (try (have c71x0 := c25b0; simp only [hl8_4, hl8_5] at c71x0))
                  clear c25
                  obtain ⟨j9, jh7, jh7w⟩ := jI (x4 + (l1.length : Int))
                  first | rw [jh7] at H | simp only [jh7] at H
                  (try clear jh3w); (try clear jh3); (try clear jh6w); (try clear jh6)
                  replace ⟨c26b0, H⟩ := iteD H
                  replace H := of_ite H
                  obtain ⟨c27, H⟩ := H
                  have c27b0 := decide_eq_true c27
                  (try (have c83x0 := c27b0; simp only [hl8_4, hl8_5] at c83x0))
                  clear c27
                  generalize yh4 : (x13.set ((j9) : Int).toNat (((rd x13 (j9)) + ((x14) % 4294967296)) % 4294967296) : List Int) = y4 at H
                  have Y4 := Aside0.mk yh4.symm; clear yh4
                  replace ⟨c28b0, H⟩ := iteD H
                  replace H := of_ite H
                  obtain ⟨c29, H⟩ := H
                  have c29b0 := decide_eq_true c29
                  (try (have c86x0 := c29b0; simp only [hl8_4, hl8_5] at c86x0))
                  clear c29
                  generalize yh5 : (x3.set (x4 : Int).toNat (((IntKind.u64.wrap (x5 - 1))) % 4294967296) : List Int) = y5 at H
                  have Y5 := Aside0.mk yh5.symm; clear yh5
                  have H' := Aside0.mk H
                  clear H
                  obtain ⟨ad7, e7, hx8, p8, q9⟩ := atI (Kd.R_reads' HO_8.out).2.2 (j9)
                  obtain rfl : (⟨go1, 0, none⟩ : Addr) = ad7 := (by injection e7)
                  (first | simp only [add_plain] at hx8 | simp only [add_at] at hx8 | simp only [Addr.add, Nat.zero_add] at hx8 | skip)
                  have p9 : 0 ≤ ((j9) : Int) := of_decide_eq_true zq0
                  have q10 : ((j9) : Int) < ((x13.length : Int) : Int) := of_decide_eq_true zq0
                  obtain ⟨hx9, hf84_0⟩ := Kd.R_celln 0 HO_8.out ((j9) : Int) p9 q10
                  (try simp only [Go.IntWalk.toNatUp] at hx9 hf84_0)
                  replace p9 := eq_true p9
                  replace q10 := eq_true q10
                  have HP2 := Kd.R_putg HO_8.out ((j9) : Int) (((rd x13 (j9)) + ((x14) % 4294967296)) % 4294967296)
                  go_wp2_with (first | (refine stR 80 237 HP2 Y4 fun w7 hw hg hp_ => ?_; clear HP2; replace HO_8 := Aside0.mk (hp_); replace HO_9 := Aside0.mk (Kd.R_after (v := (.slice (some ⟨go1, 0, none⟩) x13.length d2)) (v1 := (.slice (some ⟨go1, 0, none⟩) x13.length d2)) (ok := (fun k_ => (w.heap.size ≤ k_) ∧ some k_ ≠ (v5 : Value).ownBlock)) zq24 hg (.inl rfl)); replace HO_10 := Aside0.mk (Kd.R_after (v := (.slice (some ⟨go1, 0, none⟩) x13.length d2)) (v1 := (.slice (some ⟨go1, 0, none⟩) x13.length d2)) (ok := (fun k_ => (w.heap.size ≤ k_) ∧ some k_ ≠ (.slice (some ad4) y1.length d1 : Value).ownBlock)) zq25 hg (.inl rfl)); replace HB := bS2 hw HB GB1; clear hg hw hp_; have p10 : 0 ≤ (x4 : Int) := of_decide_eq_true zq0; have q11 : (x4 : Int) < ((x3.length : Int) : Int) := of_decide_eq_true zq0; obtain ⟨go2, d4, u4, g2, gl87, cl87, HG87⟩ := Kd.R_form HO_10.out (by omega); (first | cases u4 | (injection u4 with ea_ en_ ec_; (first | subst ea_ | (injection ea_ with ea_; subst ea_)); subst ec_; clear en_)); have GB2 := Aside0.mk g2; have GG87 := Aside0.mk HG87; clear g2 gl87 HG87; obtain ⟨hx10, hf87_0⟩ := Kd.R_celln 0 HO_10.out (x4 : Int) p10 q11; replace p10 := eq_true p10; replace q11 := eq_true q11; have n_ := Aside0.mk (Kd.R_mono (ok' := (fun k_ => (w.heap.size ≤ k_) ∧ some k_ ≠ (.slice (some ⟨go1, 0, none⟩) x13.length d2 : Value).ownBlock ∧ some k_ ≠ (.slice (some ad4) y1.length d1 : Value).ownBlock)) HO_10.out (fun k_ hk => ⟨hk.1.1, ⟨hk.2, hk.1.2⟩⟩)); clear HO_10; have HO_10 := n_; clear n_; obtain ⟨hy90_, hz90_⟩ := Kd.R_celln 0 HO_10.out (x4 : Int) (of_decide_eq_true zq0) (of_decide_eq_true zq0); have HP3 := Kd.R_putg HO_10.out (x4 : Int) (((IntKind.u64.wrap (x5 - 1))) % 4294967296)) | (refine stR 80 242 HP3 Y5 fun w8 hw hg hp_ => ?_; clear HP3; replace HO_8 := Aside0.mk (Kd.R_after (v := (.slice (some ⟨go2, 0, none⟩) x3.length d4)) (v1 := (.slice (some ⟨go2, 0, none⟩) x3.length d4)) (ok := (fun k_ => (w.heap.size ≤ k_) ∧ some k_ ≠ (.slice (some ad4) y1.length d1 : Value).ownBlock)) zq60 hg (.inl rfl)); replace HO_9 := Aside0.mk (Kd.R_after (v := (.slice (some ⟨go2, 0, none⟩) x3.length d4)) (v1 := (.slice (some ⟨go2, 0, none⟩) x3.length d4)) (ok := (fun k_ => (w.heap.size ≤ k_) ∧ some k_ ≠ (.slice (some ⟨go1, 0, none⟩) x13.length d2 : Value).ownBlock)) zq61 hg (.inl rfl)); replace HO_10 := Aside0.mk (hp_); replace HB := bS2 hw HB GB2; clear hg hw hp_))
                  (try simp only [← hl8_4, ← hl8_5])
                  first | go_roundg k5 | (simp only [← add_plain _ j5.toNat, ← add_plain _ j6.toNat]; go_roundg k5)
                  case measure => have := HK1.out; have := HK2.out; have := HJ32.out; have := HK4.out; have := HK5.out; omega
                  case rel => exact ⟨(y4), (y5), (wrap64 (x4 - 1)), zq1, H', ⟨by have := HK1.out; have := HK2.out; have := HJ32.out; have := HK4.out; have := HK5.out; omega⟩, ⟨by (try simp only [hl8_4]); (try simp only [hl8_5]); (with_reducible repeat (first | apply Kd.R_alloc | apply Kd.R_drewN | apply Kd.R_drew)); exact Kd.R_mono HO_8.out (fun _ hk => by (try simp only [own_len P1 (t2.length) (y1.length) d1] at hk); exact ⟨hk.1.1, ⟨hk.1.2, hk.2⟩⟩)⟩, ⟨by (try simp only [hl8_4]); (try simp only [hl8_5]); (with_reducible repeat (first | apply Kd.R_alloc | apply Kd.R_drewN | apply Kd.R_drew)); exact Kd.R_mono HO_9.out (fun _ hk => by (try simp only [own_len P1 (t2.length) (y1.length) d1] at hk); exact ⟨hk.1.1, ⟨hk.1.2, hk.2⟩⟩)⟩, ⟨by (try simp only [hl8_4]); (try simp only [hl8_5]); (with_reducible repeat (first | apply Kd.R_alloc | apply Kd.R_drewN | apply Kd.R_drew)); exact HO_10.out⟩, ⟨zH⟩⟩
              ·replace ⟨c25b0, H⟩ := iteD H
               replace H := of_ite H
               obtain ⟨c26, H⟩ := H
               have c26b0 := decide_eq_true c26
               (try (have c93x0 := c26b0; simp only [hl8_4] at c93x0))
               clear c26
               generalize yh4 : (x3.set (x4 : Int).toNat ((x5) % 4294967296) : List Int) = y4 at H
               have Y4 := Aside0.mk yh4.symm; clear yh4
               have H' := Aside0.mk H
               clear H
               obtain ⟨ad6, e6, hx6, p6, q7⟩ := atI (Kd.R_reads' HO_8.out).2.2 (j8)
               obtain rfl : ad2 = ad6 := (by injection e6)
               have p7 : 0 ≤ ((j8) : Int) := of_decide_eq_true zq0
               have q8 : ((j8) : Int) < ((x9.length : Int) : Int) := of_decide_eq_true zq0
               obtain ⟨go1, d3, u3, g1, gl67, cl67, HG67⟩ := Kd.R_form HO_8.out (by omega)
               (first | cases u3 | (injection u3 with ea_ en_ ec_; (first | subst ea_ | (injection ea_ with ea_; subst ea_)); subst ec_; clear en_))
               have GB1 := Aside0.mk g1
               have GG67 := Aside0.mk HG67
               clear g1 gl67 HG67
               (first | simp only [add_plain] at hx6 | skip)
               obtain ⟨hx7, hf67_0⟩ := Kd.R_celln 0 HO_8.out ((j8) : Int) p7 q8
               (try simp only [Go.IntWalk.toNatUp] at hx7 hf67_0)
               replace p7 := eq_true p7
               replace q8 := eq_true q8
               have HP1 := Kd.R_putg HO_8.out ((j8) : Int) ((IntKind.u64.wrap ((IntKind.u64.wrap (rd x9 (j8))) - (IntKind.u64.wrap (x10 + x11)))) % 4294967296)
               go_wp2_with (first | (refine stR 80 191 HP1 Y3 fun w6 hw hg hp_ => ?_; clear HP1; replace HO_8 := Aside0.mk (hp_); replace HO_9 := Aside0.mk (Kd.R_after (v := (.slice (some ⟨go1, 0, none⟩) x9.length d2)) (v1 := (.slice (some ⟨go1, 0, none⟩) x9.length d2)) (ok := (fun k_ => (w.heap.size ≤ k_) ∧ some k_ ≠ (v5 : Value).ownBlock)) zq24 hg (.inl rfl)); replace HO_10 := Aside0.mk (Kd.R_after (v := (.slice (some ⟨go1, 0, none⟩) x9.length d2)) (v1 := (.slice (some ⟨go1, 0, none⟩) x9.length d2)) (ok := (fun k_ => (w.heap.size ≤ k_) ∧ some k_ ≠ (.slice (some ad4) y1.length d1 : Value).ownBlock)) zq25 hg (.inl rfl)); replace HB := bS2 hw HB GB1; clear hg hw hp_; have p8 : 0 ≤ (x4 : Int) := of_decide_eq_true zq0; have q9 : (x4 : Int) < ((x3.length : Int) : Int) := of_decide_eq_true zq0; obtain ⟨go2, d4, u4, g2, gl94, cl94, HG94⟩ := Kd.R_form HO_10.out (by omega); (first | cases u4 | (injection u4 with ea_ en_ ec_; (first | subst ea_ | (injection ea_ with ea_; subst ea_)); subst ec_; clear en_)); have GB2 := Aside0.mk g2; have GG94 := Aside0.mk HG94; clear g2 gl94 HG94; obtain ⟨hx8, hf94_0⟩ := Kd.R_celln 0 HO_10.out (x4 : Int) p8 q9; replace p8 := eq_true p8; replace q9 := eq_true q9; have n_ := Aside0.mk (Kd.R_mono (ok' := (fun k_ => (w.heap.size ≤ k_) ∧ some k_ ≠ (.slice (some ⟨go1, 0, none⟩) x9.length d2 : Value).ownBlock ∧ some k_ ≠ (.slice (some ad4) y1.length d1 : Value).ownBlock)) HO_10.out (fun k_ hk => ⟨hk.1.1, ⟨hk.2, hk.1.2⟩⟩)); clear HO_10; have HO_10 := n_; clear n_; obtain ⟨hy97_, hz97_⟩ := Kd.R_celln 0 HO_10.out (x4 : Int) (of_decide_eq_true zq0) (of_decide_eq_true zq0); have HP2 := Kd.R_putg HO_10.out (x4 : Int) ((x5) % 4294967296)) | (refine stR 80 242 HP2 Y4 fun w7 hw hg hp_ => ?_; clear HP2; replace HO_8 := Aside0.mk (Kd.R_after (v := (.slice (some ⟨go2, 0, none⟩) x3.length d4)) (v1 := (.slice (some ⟨go2, 0, none⟩) x3.length d4)) (ok := (fun k_ => (w.heap.size ≤ k_) ∧ some k_ ≠ (.slice (some ad4) y1.length d1 : Value).ownBlock)) zq60 hg (.inl rfl)); replace HO_9 := Aside0.mk (Kd.R_after (v := (.slice (some ⟨go2, 0, none⟩) x3.length d4)) (v1 := (.slice (some ⟨go2, 0, none⟩) x3.length d4)) (ok := (fun k_ => (w.heap.size ≤ k_) ∧ some k_ ≠ (.slice (some ⟨go1, 0, none⟩) x9.length d2 : Value).ownBlock)) zq61 hg (.inl rfl)); replace HO_10 := Aside0.mk (hp_); replace HB := bS2 hw HB GB2; clear hg hw hp_))
               (try simp only [← hl8_4])
               first | go_roundg k4 | (simp only [← add_plain _ j5.toNat, ← add_plain _ j6.toNat]; go_roundg k4)
               case measure => have := HK1.out; have := HK2.out; have := HJ32.out; have := HK4.out; omega
               case rel => exact ⟨(y3), (y4), (wrap64 (x4 - 1)), zq1, H', ⟨by have := HK1.out; have := HK2.out; have := HJ32.out; have := HK4.out; omega⟩, ⟨by (try simp only [hl8_4]); (with_reducible repeat (first | apply Kd.R_alloc | apply Kd.R_drewN | apply Kd.R_drew)); exact Kd.R_mono HO_8.out (fun _ hk => by (try simp only [own_len P1 (t2.length) (y1.length) d1] at hk); exact ⟨hk.1.1, ⟨hk.1.2, hk.2⟩⟩)⟩, ⟨by (try simp only [hl8_4]); (with_reducible repeat (first | apply Kd.R_alloc | apply Kd.R_drewN | apply Kd.R_drew)); exact Kd.R_mono HO_9.out (fun _ hk => by (try simp only [own_len P1 (t2.length) (y1.length) d1] at hk); exact ⟨hk.1.1, ⟨hk.1.2, hk.2⟩⟩)⟩, ⟨by (try simp only [hl8_4]); (with_reducible repeat (first | apply Kd.R_alloc | apply Kd.R_drewN | apply Kd.R_drew)); exact HO_10.out⟩, ⟨zH⟩⟩
      ·replace ⟨c12b0, c12b1, H⟩ := iteE H
       replace ⟨c13b0, c13b1, H⟩ := iteE H
       generalize yh4 : (List.replicate ((l1.length : Int) : Int).toNat 0 : List Int) = y3 at H
       have Y3 := Aside0.mk yh4.symm; clear yh4
       have H' := Aside0.mk H
       clear H
       go_wp2_with ((with_reducible refine gate_dst (N := 244) rfl ?_); refine Kd.R_make (Kd.int .u32) _ 80 rfl (N := 244) rfl 62 _ _ rfl (l1.length : Int) rfl rfl Tryz.underlying62 (.int .u32 0) 4 info80 rfl (by decide) (by omega) 0 (ok := fun _ => True) (okp := fun _ => True) rfl (fun _ hk => hk) trivial (of_decide_eq_true zq0) (Nat.le_trans (Nat.mul_le_mul_right _ (of_decide_eq_true zq0 : (l1.length : Int).toNat ≤ 70368744177664)) (by omega)) (Below.refl _ _) (Nat.le_refl _) ?_; intro v7 w5 ho102 hb hg_ hnew_; clear hg_ hnew_; (first | rw [← Y3.out] at ho102 | (simp only [Int.reduceToNat] at ho102; rw [← Y3.out] at ho102)); have O5 := Aside0.mk (Kd.R_lower (Kd.R_new' (Kd.R_new' (Kd.R_new' (Kd.R_newM (M := fun k_ => (w.heap.size ≤ k_)) ho102 (below_size zH) (fun k_ h_ => h_)) (Kd.R_lt zq35)) (Kd.R_lt (by (with_reducible repeat (first | apply Kd.R_alloc | apply Kd.R_drewN | apply Kd.R_drew)); exact HO_9.out))) (Kd.R_lt zq29)) (below_size zH)); replace HO_8 := Aside0.mk (Kd.R_elder' zq35 (Kd.R_base ho102) hb); replace HO_9 := Aside0.mk (Kd.R_elder' (by (with_reducible repeat (first | apply Kd.R_alloc | apply Kd.R_drewN | apply Kd.R_drew)); exact HO_9.out) (Kd.R_base ho102) hb); replace HO_10 := Aside0.mk (Kd.R_elder' zq29 (Kd.R_base ho102) hb); replace HB := sB hb; clear hb ho102)
       as_aux_lemma =>
        go_loopg [25] k2 (fun kq v8 w' => ∃ (x5 : List Int) (x6 : Int), v8 = .int .i64 x6 ∧ Aside0 (R1long.l5 kq (l1.length : Int) x1 x2 x3 x5 x6 = some (r1, r2)) ∧ Aside0 (kq ≤ k2) ∧ Aside0 (Kd.R (Kd.int .u32) 80 w' w.heap.size (fun k_ => (w.heap.size ≤ k_) ∧ some k_ ≠ (v5 : Value).ownBlock ∧ some k_ ≠ (v7 : Value).ownBlock) v3 x2) ∧ Aside0 (Kd.R (Kd.int .u32) 80 w' w.heap.size (fun k_ => (w.heap.size ≤ k_) ∧ some k_ ≠ (v3 : Value).ownBlock ∧ some k_ ≠ (v7 : Value).ownBlock) v5 x3) ∧ Aside0 (Kd.R (Kd.int .u32) 80 w' w.heap.size (fun k_ => (w.heap.size ≤ k_) ∧ some k_ ≠ (v3 : Value).ownBlock ∧ some k_ ≠ (v5 : Value).ownBlock) v7 x5) ∧ Aside0 (Below w.heap.size w w'))
        case atStart => exact ⟨(y3), (0), zq1, H', ⟨Nat.le_refl _⟩, ⟨by (with_reducible repeat (first | apply Kd.R_alloc | apply Kd.R_drewN | apply Kd.R_drew)); exact Kd.R_mono HO_8.out (fun _ hk => by (try simp only [own_len P1 (t2.length) (y1.length) d1] at hk); exact ⟨hk.1.1, ⟨hk.1.2.2, hk.2⟩⟩)⟩, ⟨by (with_reducible repeat (first | apply Kd.R_alloc | apply Kd.R_drewN | apply Kd.R_drew)); exact Kd.R_mono HO_10.out (fun _ hk => by (try simp only [own_len P1 (t2.length) (y1.length) d1] at hk); exact ⟨hk.1.1, ⟨hk.1.2.1, hk.2⟩⟩)⟩, ⟨by (with_reducible repeat (first | apply Kd.R_alloc | apply Kd.R_drewN | apply Kd.R_drew)); exact Kd.R_mono O5.out (fun _ hk => by (try simp only [own_len P1 (t2.length) (y1.length) d1] at hk); exact ⟨hk.1.1.1.1, ⟨hk.1.1.2, hk.2⟩⟩)⟩, ⟨zH⟩⟩
        case round =>
         clear H'
         obtain ⟨x5, x6, rfl, HA, HK3, HO_8, HO_10, HO_24, HB⟩ := hrel
         cases gk with
         | zero => exact absurd HA.out (by simp [R1long.l5])
         | succ k3 =>
          have H := HA.out
          clear HA
          simp only [R1long.l5] at H
          replace H := iL H
          rcases H with ⟨c14b0, H⟩ | ⟨c14b0, H⟩
          ·obtain ⟨j5, jh3, jh3w⟩ := jI (x6 + 1)
           first | rw [jh3] at H | simp only [jh3] at H
           replace ⟨c15b0, H⟩ := iteD H
           replace ⟨c16b0, H⟩ := iteD H
           replace ⟨c17b0, H⟩ := iteD H
           replace ⟨c18b0, H⟩ := iteD H
           replace ⟨c19b0, c19b1, H⟩ := iteE H
           replace ⟨c20b0, c20b1, H⟩ := iteE H
           replace ⟨c21b0, H⟩ := iteD H
           generalize yh5 : (x5.set (x6 : Int).toNat (((Go.bits .or .u64 (IntKind.u64.wrap ((IntKind.u64.wrap (rd x2 (j5))) * 4294967296)) (IntKind.u64.wrap (rd x2 x6))) / 2 ^ x1.toNat) % 4294967296) : List Int) = y4 at H
           have Y4 := Aside0.mk yh5.symm; clear yh5
           have H' := Aside0.mk H
           clear H
           try go_wp2
           replace HO_8 := rD HO_8
           replace HO_10 := rD HO_10
           replace HO_24 := rD HO_24
           replace HB := hD HB
           obtain ⟨P2, d2, u2⟩ := Kd.R_slice HO_8.out
           (first | subst u2 | (injection u2 with f1_ f2_ f3_; have f4_ := f1_.symm; have f5_ := f3_.symm; clear f1_ f2_ f3_; subst f4_; subst f5_))
           obtain ⟨ad2, e2, hx2, p2, q3⟩ := atI (Kd.R_reads' HO_8.out).2.2 (j5)
           cases e2
           obtain ⟨ad3, e3, hx3, p3, q4⟩ := atI (Kd.R_reads' HO_8.out).2.2 x6
           obtain rfl : ad2 = ad3 := (by injection e3)
           have p4 : 0 ≤ (x6 : Int) := of_decide_eq_true zq0
           have q5 : (x6 : Int) < ((x5.length : Int) : Int) := of_decide_eq_true zq0
           obtain ⟨go1, d3, u3, g1, gl112, cl112, HG112⟩ := Kd.R_form HO_24.out (by omega)
           (first | cases u3 | (injection u3 with ea_ en_ ec_; (first | subst ea_ | (injection ea_ with ea_; subst ea_)); subst ec_; clear en_))
           have GB1 := Aside0.mk g1
           have GG112 := Aside0.mk HG112
           clear g1 gl112 HG112
           obtain ⟨hx4, hf112_0⟩ := Kd.R_celln 0 HO_24.out (x6 : Int) p4 q5
           (try simp only [Go.IntWalk.toNatUp] at hx4 hf112_0)
           replace p4 := eq_true p4
           replace q5 := eq_true q5
           have HP1 := Kd.R_putn HO_24.out (x6 : Int) (((Go.bits .or .u64 (IntKind.u64.wrap ((IntKind.u64.wrap (rd x2 (j5))) * 4294967296)) (IntKind.u64.wrap (rd x2 x6))) / 2 ^ x1.toNat) % 4294967296)
           rw [← Y4.out] at HP1
           have HQ115 := Aside0.mk HP1
           clear HP1
           refine startA 20 (S := fun w' => w'.cell? (ad2.add ((j5)).toNat) = some (.int .u32 (rd x2 (j5))) ∧ w'.cell? (ad2.add (x6).toNat) = some (.int .u32 (rd x2 x6))) (ds := [19]) ⟨hx2, hx3⟩ (fun hHeld => ?_); refine with_tabW R1long.tab51 R1long.bits51 (fun HT_ HW_ => ?_)
           generalize wr.drew = w6 at HO_8 HO_10 HO_24 HB GG112 HQ115 hf112_0 hx4 hx2 hx3 hHeld ⊢
           refine pA 0 1 ?_
           refine pA 1 3 ?_
           refine pA 2 7 ?_
           refine pA 3 15 ?_
           refine pA 4 31 ?_
           refine pA 5 63 ?_
           refine pA 9 575 ?_
           refine pA 10 1599 ?_
           refine pA 11 3647 ?_
           refine pA 15 36415 ?_
           refine tA 6 36479 hHeld ?_
           refine pA 7 36607 ?_
           refine pA 8 36863 ?_
           refine tA 12 40959 hHeld ?_
           refine pA 13 49151 ?_
           refine pA 14 65535 ?_
           refine pA 16 131071 ?_
           refine pA 17 262143 ?_
           refine pA 18 524287 ?_
           refine last_ (i := 19) (N := none) (lB 20 1048575) rfl rfl (one_of HT_.out (by kernel_rfl)) (by decide) (fun K hK => ?_)
           refine skip_ (w1 := ?_) (by rfl) rfl ?_ ?_
           rotate_left
           ·go_simp
            rfl
           refine hK.out _ _ ?_
           clear hK K
           refine done_ (done_of HT_.out (by kernel_rfl)) ?_
           try go_wp2
           first | go_roundg k3 | (simp only [← add_plain _ j6.toNat, ← add_plain _ j7.toNat]; go_roundg k3)
           case measure => have := HK1.out; have := HK2.out; have := HK3.out; omega
           case rel => exact ⟨(y4), (j5), (by first | rfl | (simp; done) | (simp only [← jh3] <;> (first | rfl | simp)) | (simp [*]; done)), H', ⟨by have := HK1.out; have := HK2.out; have := HK3.out; omega⟩, ⟨by (with_reducible repeat (first | apply Kd.R_alloc | apply Kd.R_drewN | apply Kd.R_drew)); exact Kd.R_mono (Kd.R_far (p := ⟨go1, (x6 : Int).toNat, none⟩) (Kd.R_mono HO_8.out (fun k_ hk => (⟨hk, fun e_ => hk.2.2 (by rw [e_]; rfl)⟩ : _ ∧ k_ ≠ go1))) (fun _ hk => hk.2) (.int .u32 (((Go.bits .or .u64 (IntKind.u64.wrap ((IntKind.u64.wrap (rd x2 (j5))) * 4294967296)) (IntKind.u64.wrap (rd x2 x6))) / 2 ^ x1.toNat) % 4294967296))) (fun _ hk => ⟨hk.1.1, ⟨hk.1.2.1, hk.1.2.2⟩⟩)⟩, ⟨by (with_reducible repeat (first | apply Kd.R_alloc | apply Kd.R_drewN | apply Kd.R_drew)); exact Kd.R_mono (Kd.R_far (p := ⟨go1, (x6 : Int).toNat, none⟩) (Kd.R_mono HO_10.out (fun k_ hk => (⟨hk, fun e_ => hk.2.2 (by rw [e_]; rfl)⟩ : _ ∧ k_ ≠ go1))) (fun _ hk => hk.2) (.int .u32 (((Go.bits .or .u64 (IntKind.u64.wrap ((IntKind.u64.wrap (rd x2 (j5))) * 4294967296)) (IntKind.u64.wrap (rd x2 x6))) / 2 ^ x1.toNat) % 4294967296))) (fun _ hk => ⟨hk.1.1, ⟨hk.1.2.1, hk.1.2.2⟩⟩)⟩, ⟨zR⟩, ⟨zH⟩⟩
          ·replace ⟨t3, A4, H⟩ := bS H
           replace ⟨t4, A5, H⟩ := bS H
           simp only [Option.some.injEq, Prod.mk.injEq] at H
           obtain ⟨rfl, rfl⟩ := H
           obtain ⟨P2, d2, u2⟩ := Kd.R_slice HO_10.out
           subst u2
           go_wp2_with (first | (refine gR 270 Tryz.func70 (R1strip.calls k3 (fun k_ => some k_ = (.slice P2 x3.length d2 : Value).ownBlock) _ _ x3 t3 _ ?side1 A4.out) fun v9 w6 ho0 hb => ?_; (case side1 => exact Kd.R_V (Kd.R_tight rfl (HO_10.out))); have O6 := Aside0.mk (Kd.V_lower (Kd.V_mono (ok' := fun k_ => (w.heap.size ≤ k_) ∧ some k_ ≠ (v3 : Value).ownBlock ∧ some k_ ≠ (v7 : Value).ownBlock) ho0 (fun k_ hk_ => ⟨Or.elim hk_ (fun hs_ => ((HO_10.out).1 k_ hs_.symm).1) (fun hn_ => (Nat.le_trans (below_size zH) hn_)), Or.elim hk_ (fun hs_ => ((HO_10.out).1 k_ hs_.symm).2.1) (fun hn_ => (Kd.fresh' (Kd.R_lt zq35) k_ hn_)), Or.elim hk_ (fun hs_ => ((HO_10.out).1 k_ hs_.symm).2.2) (fun hn_ => (Kd.fresh' (Kd.R_lt (by (with_reducible repeat (first | apply Kd.R_alloc | apply Kd.R_drewN | apply Kd.R_drew)); exact HO_24.out)) k_ hn_))⟩)) (below_size zH)); replace HO_8 := rB HO_8 hb; replace HO_10 := rB HO_10 hb; replace HO_24 := rB HO_24 hb; replace HB := sB hb; (try clear hb); (try clear ho0); obtain ⟨P3, d3, u3⟩ := Kd.R_slice HO_24.out; subst u3) | (refine gR 272 Tryz.func70 (R1strip.calls k3 (fun k_ => some k_ = (.slice P3 x5.length d3 : Value).ownBlock) _ _ x5 t4 _ ?side1 A5.out) fun v10 w7 ho0 hb => ?_; (case side1 => exact Kd.R_V (Kd.R_tight rfl (HO_24.out))); have O7 := Aside0.mk (Kd.V_lower (Kd.V_mono (ok' := fun k_ => (w.heap.size ≤ k_) ∧ some k_ ≠ (v3 : Value).ownBlock ∧ some k_ ≠ (.slice P2 x3.length d2 : Value).ownBlock) ho0 (fun k_ hk_ => ⟨Or.elim hk_ (fun hs_ => ((HO_24.out).1 k_ hs_.symm).1) (fun hn_ => (Nat.le_trans (below_size zH) hn_)), Or.elim hk_ (fun hs_ => ((HO_24.out).1 k_ hs_.symm).2.1) (fun hn_ => (Kd.fresh' (Kd.R_lt zq35) k_ hn_)), Or.elim hk_ (fun hs_ => ((HO_24.out).1 k_ hs_.symm).2.2) (fun hn_ => (Kd.fresh' (Kd.R_lt zq29) k_ hn_))⟩)) (below_size zH)); replace HO_8 := rB HO_8 hb; replace HO_10 := rB HO_10 hb; replace HO_24 := rB HO_24 hb; replace O6 := vB O6 hb; replace HB := sB hb; (try clear hb); (try clear ho0)))
           go_ret2
           exact ⟨_, _, by first | rfl | (simp [errW_none, errW_some] <;> rfl) | (simp only [← jh1, ← jh2]; first | rfl | (simp [errW_none, errW_some] <;> rfl)) | (simp [*, errW_none, errW_some] <;> rfl), by (with_reducible repeat (first | apply Kd.V_alloc | apply Kd.V_drewN | apply Kd.V_drew)); exact Kd.V_mono O6.out (fun _ hk => hk.1), by (with_reducible repeat (first | apply Kd.V_alloc | apply Kd.V_drewN | apply Kd.V_drew)); exact Kd.V_mono O7.out (fun _ hk => hk.1), zH⟩
end Go.Proofs.YtggfilmdfpmbmaaGreatDoor.QN
end
