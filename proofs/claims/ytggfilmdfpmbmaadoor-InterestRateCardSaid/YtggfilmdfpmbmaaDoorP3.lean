/-
  Steps and laws behind the statement that the claim's last text proves: the words of the walks, the walks of the Go functions (printed by a program of this session's own, then shortened by one), and what they compute. Conditions: stated at each theorem.
-/
import Derived.Test.YtggfilmdfpmbmaaDoorP1
import Derived.Test.YtggfilmdfpmbmaaDoorP0
section
namespace Go.Proofs.YtggfilmdfpmbmaaDoor.QN
open Go.RowKit Go.Proofs.YtggfilmdfpmbmaaDoorW.PrintWords Go.Proofs.YtggfilmdfpmbmaaDoorW.PrintLast Go.Proofs.YtggfilmdfpmbmaaDoorW.PrintMore
attribute [local go_sem] max2_int min2_int max_two min_two max_three min_three max_four min_four   -- for this text's walks alone
set_option linter.unusedVariables false
set_option linter.unusedSimpArgs false
mutual
def R1long.l0 : Nat → List Int → List Int → Int → Int → Option (List Int × List Int)
 | 0, _, _, _, _ => none
 | k + 1, x0, x1, x6, x7 => if 0 ≤ (wrap64 (x6 - 1)) then (if (wrap64 (x6 - 1)) < (x1.length : Int) then (if 0 ≤ x7 then (if x7 ≤ 32 then (if (((rd x1 (wrap64 (x6 - 1))) * 2 ^ x7.toNat) % 4294967296) < 2147483648 then (R1long.l0 k x0 x1 x6 (IntKind.u64.wrap (x7 + 1))) else ((R1shifted.f k x0 x7).bind fun t364 => ((R1shifted.f k x1 x7).bind fun t367 => (if 0 ≤ x6 then (if x6 ≤ (t367.length : Int) then (if 0 ≤ (wrap64 ((wrap64 ((x0.length : Int) - x6)) + 1)) then (if (wrap64 ((wrap64 ((x0.length : Int) - x6)) + 1) : Int).toNat ≤ 70368744177664 then (R1long.l1 k x6 x7 t364 (t367.take (x6 : Int).toNat) (List.replicate (wrap64 ((wrap64 ((x0.length : Int) - x6)) + 1) : Int).toNat 0) (wrap64 ((x0.length : Int) - x6))) else (none)) else (none)) else (none)) else (none))))) else (none)) else (none)) else (none)) else (none)
def R1long.l1 : Nat → Int → Int → List Int → List Int → List Int → Int → Option (List Int × List Int)
 | 0, _, _, _, _, _, _ => none
 | k + 1, x6, x7, x8, x9, x10, x11 => if x11 ≥ 0 then (if 0 ≤ (wrap64 (x11 + x6)) then (if (wrap64 (x11 + x6)) < (x8.length : Int) then (if 0 ≤ (wrap64 ((wrap64 (x11 + x6)) - 1)) then (if (wrap64 ((wrap64 (x11 + x6)) - 1)) < (x8.length : Int) then (if 0 ≤ (wrap64 (x6 - 1)) then (if (wrap64 (x6 - 1)) < (x9.length : Int) then (if (IntKind.u64.wrap (rd x9 (wrap64 (x6 - 1)))) = 0 then (none) else (R1long.l2 k x6 x7 x8 x9 x10 x11 (IntKind.u64.wrap (Int.tdiv (Go.bits .or .u64 (IntKind.u64.wrap ((IntKind.u64.wrap (rd x8 (wrap64 (x11 + x6)))) * 4294967296)) (IntKind.u64.wrap (rd x8 (wrap64 ((wrap64 (x11 + x6)) - 1))))) (IntKind.u64.wrap (rd x9 (wrap64 (x6 - 1)))))) (Int.tmod (Go.bits .or .u64 (IntKind.u64.wrap ((IntKind.u64.wrap (rd x8 (wrap64 (x11 + x6)))) * 4294967296)) (IntKind.u64.wrap (rd x8 (wrap64 ((wrap64 (x11 + x6)) - 1))))) (IntKind.u64.wrap (rd x9 (wrap64 (x6 - 1))))))) else (none)) else (none)) else (none)) else (none)) else (none)) else (none)) else (if 0 ≤ x6 then (if (x6 : Int).toNat ≤ 70368744177664 then (R1long.l5 k x6 x7 x8 x10 (List.replicate (x6 : Int).toNat 0) 0) else (none)) else (none))
def R1long.j4 : Nat → Int → Int → List Int → List Int → List Int → Int → Int → Option (List Int × List Int)
 | 0, _, _, _, _, _, _, _ => none
 | k + 1, x6, x7, x8, x9, x10, x11, x13 => R1long.l3 k x6 x7 x8 x9 x10 x11 x13 0 0 0
def R1long.l3 : Nat → Int → Int → List Int → List Int → List Int → Int → Int → Int → Int → Int → Option (List Int × List Int)
 | 0, _, _, _, _, _, _, _, _, _, _ => none
 | k + 1, x6, x7, x8, x9, x10, x11, x13, x15, x16, x17 => if x17 < x6 then (if 0 ≤ x17 then (if x17 < (x9.length : Int) then (if 0 ≤ (wrap64 (x11 + x17)) then (if (wrap64 (x11 + x17)) < (x8.length : Int) then (if (IntKind.u64.wrap (rd x8 (wrap64 (x11 + x17)))) < (IntKind.u64.wrap ((Go.bits .and .u64 (IntKind.u64.wrap (x15 + (IntKind.u64.wrap (x13 * (IntKind.u64.wrap (rd x9 x17)))))) 4294967295) + x16)) then (R1long.l3 k x6 x7 (x8.set ((wrap64 (x11 + x17)) : Int).toNat ((IntKind.u64.wrap ((IntKind.u64.wrap ((IntKind.u64.wrap (rd x8 (wrap64 (x11 + x17)))) + 4294967296)) - (IntKind.u64.wrap ((Go.bits .and .u64 (IntKind.u64.wrap (x15 + (IntKind.u64.wrap (x13 * (IntKind.u64.wrap (rd x9 x17)))))) 4294967295) + x16)))) % 4294967296)) x9 x10 x11 x13 ((IntKind.u64.wrap (x15 + (IntKind.u64.wrap (x13 * (IntKind.u64.wrap (rd x9 x17)))))) / 4294967296) 1 (wrap64 (x17 + 1))) else (R1long.l3 k x6 x7 (x8.set ((wrap64 (x11 + x17)) : Int).toNat ((IntKind.u64.wrap ((IntKind.u64.wrap (rd x8 (wrap64 (x11 + x17)))) - (IntKind.u64.wrap ((Go.bits .and .u64 (IntKind.u64.wrap (x15 + (IntKind.u64.wrap (x13 * (IntKind.u64.wrap (rd x9 x17)))))) 4294967295) + x16)))) % 4294967296)) x9 x10 x11 x13 ((IntKind.u64.wrap (x15 + (IntKind.u64.wrap (x13 * (IntKind.u64.wrap (rd x9 x17)))))) / 4294967296) 0 (wrap64 (x17 + 1)))) else (none)) else (none)) else (none)) else (none)) else (if 0 ≤ (wrap64 (x11 + x6)) then (if (wrap64 (x11 + x6)) < (x8.length : Int) then ((some (x8.set ((wrap64 (x11 + x6)) : Int).toNat ((IntKind.u64.wrap ((IntKind.u64.wrap (rd x8 (wrap64 (x11 + x6)))) - (IntKind.u64.wrap (x15 + x16)))) % 4294967296) : List Int)).bind fun y388 => (if (IntKind.u64.wrap (rd x8 (wrap64 (x11 + x6)))) < (IntKind.u64.wrap (x15 + x16)) then (R1long.l4 k x6 x7 y388 x9 x10 x11 (IntKind.u64.wrap (x13 - 1)) 0 0) else (if 0 ≤ x11 then (if x11 < (x10.length : Int) then (R1long.l1 k x6 x7 y388 x9 (x10.set (x11 : Int).toNat ((x13) % 4294967296)) (wrap64 (x11 - 1))) else (none)) else (none)))) else (none)) else (none))
def R1long.l4 : Nat → Int → Int → List Int → List Int → List Int → Int → Int → Int → Int → Option (List Int × List Int)
 | 0, _, _, _, _, _, _, _, _, _ => none
 | k + 1, x6, x7, x8, x9, x10, x11, x13, x15, x23 => if x23 < x6 then (if 0 ≤ (wrap64 (x11 + x23)) then (if (wrap64 (x11 + x23)) < (x8.length : Int) then (if 0 ≤ x23 then (if x23 < (x9.length : Int) then (R1long.l4 k x6 x7 (x8.set ((wrap64 (x11 + x23)) : Int).toNat ((IntKind.u64.wrap ((IntKind.u64.wrap (x15 + (IntKind.u64.wrap (rd x8 (wrap64 (x11 + x23)))))) + (IntKind.u64.wrap (rd x9 x23)))) % 4294967296)) x9 x10 x11 x13 ((IntKind.u64.wrap ((IntKind.u64.wrap (x15 + (IntKind.u64.wrap (rd x8 (wrap64 (x11 + x23)))))) + (IntKind.u64.wrap (rd x9 x23)))) / 4294967296) (wrap64 (x23 + 1))) else (none)) else (none)) else (none)) else (none)) else (if 0 ≤ (wrap64 (x11 + x6)) then (if (wrap64 (x11 + x6)) < (x8.length : Int) then (if 0 ≤ x11 then (if x11 < (x10.length : Int) then (R1long.l1 k x6 x7 (x8.set ((wrap64 (x11 + x6)) : Int).toNat (((rd x8 (wrap64 (x11 + x6))) + ((x15) % 4294967296)) % 4294967296)) x9 (x10.set (x11 : Int).toNat ((x13) % 4294967296)) (wrap64 (x11 - 1))) else (none)) else (none)) else (none)) else (none))
def R1long.l2 : Nat → Int → Int → List Int → List Int → List Int → Int → Int → Int → Option (List Int × List Int)
 | 0, _, _, _, _, _, _, _, _ => none
 | k + 1, x6, x7, x8, x9, x10, x11, x13, x14 => if x13 ≥ 4294967296 then (R1long.j3 k x6 x7 x8 x9 x10 x11 x13 x14 true) else (if 0 ≤ (wrap64 (x6 - 2)) then (if (wrap64 (x6 - 2)) < (x9.length : Int) then (if 0 ≤ (wrap64 ((wrap64 (x11 + x6)) - 2)) then (if (wrap64 ((wrap64 (x11 + x6)) - 2)) < (x8.length : Int) then (R1long.j3 k x6 x7 x8 x9 x10 x11 x13 x14 (decide ((IntKind.u64.wrap (x13 * (IntKind.u64.wrap (rd x9 (wrap64 (x6 - 2)))))) > (Go.bits .or .u64 (IntKind.u64.wrap (x14 * 4294967296)) (IntKind.u64.wrap (rd x8 (wrap64 ((wrap64 (x11 + x6)) - 2)))))))) else (none)) else (none)) else (none)) else (none))
def R1long.j3 : Nat → Int → Int → List Int → List Int → List Int → Int → Int → Int → Bool → Option (List Int × List Int)
 | 0, _, _, _, _, _, _, _, _, _ => none
 | k + 1, x6, x7, x8, x9, x10, x11, x13, x14, x116 => if x116 = true then (if 0 ≤ (wrap64 (x6 - 1)) then (if (wrap64 (x6 - 1)) < (x9.length : Int) then (if (IntKind.u64.wrap (x14 + (IntKind.u64.wrap (rd x9 (wrap64 (x6 - 1)))))) ≥ 4294967296 then (R1long.j4 k x6 x7 x8 x9 x10 x11 (IntKind.u64.wrap (x13 - 1))) else (R1long.l2 k x6 x7 x8 x9 x10 x11 (IntKind.u64.wrap (x13 - 1)) (IntKind.u64.wrap (x14 + (IntKind.u64.wrap (rd x9 (wrap64 (x6 - 1)))))))) else (none)) else (none)) else (R1long.j4 k x6 x7 x8 x9 x10 x11 x13)
def R1long.l5 : Nat → Int → Int → List Int → List Int → List Int → Int → Option (List Int × List Int)
 | 0, _, _, _, _, _, _ => none
 | k + 1, x6, x7, x8, x10, x24, x25 => if x25 < x6 then (if 0 ≤ (wrap64 (x25 + 1)) then (if (wrap64 (x25 + 1)) < (x8.length : Int) then (if 0 ≤ x25 then (if x25 < (x8.length : Int) then (if 0 ≤ x7 then (if x7 ≤ 64 then (if x25 < (x24.length : Int) then (R1long.l5 k x6 x7 x8 x10 (x24.set (x25 : Int).toNat (((Go.bits .or .u64 (IntKind.u64.wrap ((IntKind.u64.wrap (rd x8 (wrap64 (x25 + 1)))) * 4294967296)) (IntKind.u64.wrap (rd x8 x25))) / 2 ^ x7.toNat) % 4294967296)) (wrap64 (x25 + 1))) else (none)) else (none)) else (none)) else (none)) else (none)) else (none)) else (none)) else ((R1strip.f k x10).bind fun t402 => ((R1strip.f k x24).bind fun t405 => (some (t402, t405))))
end
def R1long.f (k : Nat) (l0 : List Int) (l1 : List Int) : Option (List Int × List Int) := R1long.l0 k l0 l1 (l1.length : Int) 0
def R1long.T11 : Bool × List (List Nat × List Nat) := (true, [([], []), ([], []), ([], []), ([1, 2], [1, 2]), ([0, 3], [0, 3]), ([4], [4]), ([5], [5]), ([6], [6]), ([], []), ([], []), ([], []), ([9, 10], [9, 10]), ([11], [11]), ([8, 12], [8, 12]), ([13], [13]), ([14], [14]), ([7, 15], [7, 15]), ([16, 0, 1, 2, 3, 4, 5, 6, 7, 8, 9, 10, 11, 12, 13, 14, 15, 16], [16])])
def R1long.B11 : List Nat := [0, 0, 0, 6, 15, 31, 63, 127, 0, 0, 0, 1536, 3584, 7936, 16128, 32512, 65535, 131071]
theorem R1long.tab11 : rtab .any (opsOf Tryd.f92 11) = R1long.T11 := by kernel_rfl
theorem R1long.bits11 : waitsOk R1long.T11.2 R1long.B11 = true := by kernel_rfl
def R1long.T14 : Bool × List (List Nat × List Nat) := (true, [([], []), ([0], [0]), ([1], [1]), ([2], [2]), ([2], [2]), ([2], [2]), ([5, 2], [2, 5]), ([4, 6, 2], [2, 4, 6]), ([7, 2], [2, 7]), ([8, 2], [2, 8]), ([3, 9, 2], [2, 3, 9]), ([2], [2]), ([11, 2], [2, 11]), ([2], [2]), ([2], [2]), ([2], [2]), ([14, 15, 2], [2, 14, 15]), ([16, 2], [2, 16]), ([13, 17, 2], [2, 13, 17]), ([18, 2], [2, 18]), ([19, 2], [2, 19]), ([12, 20, 2], [2, 12, 20]), ([10, 21, 2], [2, 10, 21]), ([2, 22], [2, 22])])
def R1long.B14 : List Nat := [0, 1, 3, 7, 7, 7, 39, 119, 247, 503, 1023, 7, 2055, 7, 7, 7, 49159, 114695, 253959, 516103, 1040391, 2095111, 4194303, 8388607]
theorem R1long.tab14 : rtab .any (opsOf Tryd.f92 14) = R1long.T14 := by kernel_rfl
theorem R1long.bits14 : waitsOk R1long.T14.2 R1long.B14 = true := by kernel_rfl
def R1long.T42 : Bool × List (List Nat × List Nat) := (true, [([], []), ([], []), ([], []), ([], []), ([2, 3], [2, 3]), ([1, 4], [1, 4]), ([5], [5]), ([6], [6]), ([0, 7], [0, 7]), ([], []), ([], []), ([9, 10], [9, 10]), ([11], [11]), ([12], [12]), ([8, 13], [8, 13]), ([14, 0, 1, 2, 3, 4, 5, 6, 7, 8, 9, 10, 11, 12, 13, 14], [0, 14])])
def R1long.B42 : List Nat := [0, 0, 0, 0, 12, 30, 62, 126, 255, 0, 0, 1536, 3584, 7680, 16383, 32767]
theorem R1long.tab42 : rtab .any (opsOf Tryd.f92 42) = R1long.T42 := by kernel_rfl
theorem R1long.bits42 : waitsOk R1long.T42.2 R1long.B42 = true := by kernel_rfl
def R1long.T51 : Bool × List (List Nat × List Nat) := (true, [([], []), ([], []), ([], []), ([], []), ([3], [3]), ([2, 4], [2, 4]), ([5], [5]), ([6], [6]), ([7], [7]), ([], []), ([], []), ([9, 10], [9, 10]), ([11], [11]), ([12], [12]), ([8, 13], [8, 13]), ([], []), ([14, 15], [14, 15]), ([16], [16]), ([0, 1, 0, 1, 2, 3, 4, 5, 6, 7, 8, 9, 10, 11, 12, 13, 14, 15, 16, 17], [0, 1]), ([18, 17, 0, 1, 2, 3, 4, 5, 6, 7, 8, 9, 10, 11, 12, 13, 14, 15, 16, 17], [17, 18])])
def R1long.B51 : List Nat := [0, 0, 0, 0, 8, 28, 60, 124, 252, 0, 0, 1536, 3584, 7680, 16380, 0, 65532, 131068, 262143, 524287]
theorem R1long.tab51 : rtab .any (opsOf Tryd.f92 51) = R1long.T51 := by kernel_rfl
theorem R1long.bits51 : waitsOk R1long.T51.2 R1long.B51 = true := by kernel_rfl
set_option maxHeartbeats 80000000 in
set_option maxRecDepth 100000 in
theorem R1long.calls (k : Nat) (A0 : Option Addr) (c0 : Nat) (l0 : List Int) (A1 : Option Addr) (c1 : Nat) (l1 : List Int) (r1 : List Int) (r2 : List Int) (w : World) (hr0 : Kd.C (Kd.int .u32) w A0 l0.length l0) (hc0 : l0.length ≤ c0) (hr1 : Kd.C (Kd.int .u32) w A1 l1.length l1) (hc1 : l1.length ≤ c1) (h : R1long.f k l0 l1 = some (r1, r2)) :
 Calls Tryd.prog 92 #[.slice A0 l0.length c0, .slice A1 l1.length c1] w fun e w' => ∃ v0_ v1_ : Value, e = .returned (.tuple #[v0_, v1_]) ∧ Kd.V (Kd.int .u32) 86 w' w.heap.size (fun k_ => (w.heap.size ≤ k_)) v0_ r1 ∧ Kd.V (Kd.int .u32) 86 w' w.heap.size (fun k_ => (w.heap.size ≤ k_)) v1_ r2 ∧ Below w.heap.size w w' := by
 have HR0 := Aside0.mk hr0
 have HC0 := Aside0.mk hc0
 clear hr0 hc0
 have HR1 := Aside0.mk hr1
 have HC1 := Aside0.mk hc1
 clear hr1 hc1
 have HB := Aside0.mk (Below.refl w.heap.size w)
 have H : (R1long.l0 k l0 l1 (l1.length : Int) 0) = some (r1, r2) := h
 clear h
 have H' := Aside0.mk H
 clear H
 go_enter Tryd.func92, Tryd.ntmps92
 go_wp2
 go_loopg [7] k (fun kq v7 w' => ∃ (x7_1 : Int), v7 = .int .u64 x7_1 ∧ Aside0 (R1long.l0 kq l0 l1 (l1.length : Int) x7_1 = some (r1, r2)) ∧ Aside0 (kq ≤ k) ∧ Aside0 (Below w.heap.size w w'))
 case atStart => exact ⟨(0), zq1, H', ⟨Nat.le_refl _⟩, ⟨zH⟩⟩
 case round =>
  clear H'
  obtain ⟨x7_1, rfl, HA, HK1, HB⟩ := hrel
  cases gk with
  | zero => exact absurd HA.out (by simp [R1long.l0])
  | succ k1 =>
   have H := HA.out
   clear HA
   simp only [R1long.l0] at H
   obtain ⟨ji3, hji3, hji3w⟩ := jI ((l1.length : Int) - 1)
   first | rw [hji3] at H | simp only [hji3] at H
   replace H := iteD H
   obtain ⟨c4b0, H⟩ := H
   replace H := iteD H
   obtain ⟨c5b0, H⟩ := H
   replace H := iteE H
   obtain ⟨c6b0, c6b1, H⟩ := H
   replace H := iteE H
   obtain ⟨c7b0, c7b1, H⟩ := H
   by_cases c8 : (((rd l1 (ji3)) * 2 ^ x7_1.toNat) % 4294967296) < 2147483648
   ·rw [if_pos c8] at H
    have c8b0 := decide_eq_true c8
    clear c8
    have H' := Aside0.mk H
    clear H
    obtain ⟨ad363, e363, hx363_0, p363, q363⟩ := atI HR1.out (ji3)
    cases e363
    (try replace hx363_0 := (HB.out.cell (World.block_lt_of_cell? w _ hx363_0)).trans hx363_0)
    go_wp2
    first | go_roundg k1 | (simp only [← add_plain _ ji23.toNat, ← add_plain _ ji26.toNat]; go_roundg k1)
    case measure => have := HK1.out; omega
    case rel => exact ⟨(IntKind.u64.wrap (x7_1 + 1)), zq1, H', ⟨by have := HK1.out; omega⟩, ⟨zH⟩⟩
   ·rw [if_neg c8] at H
    have c8b0 := decide_eq_false c8
    clear c8
    replace H := bS H
    obtain ⟨t364, A9, H⟩ := H
    replace H := bS H
    obtain ⟨t367, A10, H⟩ := H
    replace H := iteE H
    obtain ⟨c11b0, c11b1, H⟩ := H
    replace H := iteE H
    obtain ⟨c12b0, c12b1, H⟩ := H
    obtain ⟨y370, hy370⟩ : ∃ y_ : List Int, y_ = (t367.take ((l1.length : Int) : Int).toNat) := ⟨_, rfl⟩
    (try rw [Option.bind_some] at H); (try rw [← hy370] at H)
    have Ny370 := Aside0.mk hy370
    clear hy370
    obtain ⟨ji13, hji13, hji13w⟩ := jI ((wrap64 ((l0.length : Int) - (l1.length : Int))) + 1)
    first | rw [hji13] at H | simp only [hji13] at H
    (try rw [hji13] at A9)
    (try rw [hji13] at A10)
    replace H := iteE H
    obtain ⟨c14b0, c14b1, H⟩ := H
    replace H := iteE H
    obtain ⟨c15b0, c15b1, H⟩ := H
    obtain ⟨y373, hy373⟩ : ∃ y_ : List Int, y_ = (List.replicate (ji13 : Int).toNat 0) := ⟨_, rfl⟩
    (try rw [Option.bind_some] at H); (try rw [← hy373] at H)
    have Ny373 := Aside0.mk hy373
    clear hy373
    have H' := Aside0.mk H
    clear H
    obtain ⟨ad363, e363, hx363_0, p363, q363⟩ := atI HR1.out (ji3)
    cases e363
    (try replace hx363_0 := (HB.out.cell (World.block_lt_of_cell? w _ hx363_0)).trans hx363_0)
    go_wp2_with (first | (refine goesLA 40 Tryd.func104 #[.slice A0 l0.length c0, .int .u64 x7_1] ?_; (with_reducible refine (R1shifted.calls k1 _ _ l0 x7_1 t364 _ ?side1 ?side2 A9.out).mono ?_); (case side1 => exact sC (Kd.C_below HR0.out HB.out)); (case side2 => exact HC0.out); rintro e w16 ⟨v365, rfl, ho0, hb⟩; refine ⟨_, rfl, ?_⟩; have n0_ := Aside0.mk (Kd.R_lower (Kd.R_newM (M := fun k_ => (w.heap.size ≤ k_)) ho0 (below_size zH) (fun k_ h_ => h_)) (below_size zH)); have n1_ := sB hb; revert n0_ n1_; clear HB; intro HO366 HB; (try clear hb); (try clear hb2); (try clear hk); (try clear hi); (try clear ho0)) | (refine goesLA 43 Tryd.func104 #[.slice (some ad363) l1.length c1, .int .u64 x7_1] ?_; (with_reducible refine (R1shifted.calls k1 _ _ l1 x7_1 t367 _ ?side1 ?side2 A10.out).mono ?_); (case side1 => exact sC (Kd.C_below HR1.out HB.out)); (case side2 => exact HC1.out); rintro e w17 ⟨v368, rfl, ho0, hb⟩; refine ⟨_, rfl, ?_⟩; have n0_ := Aside0.mk (Kd.R_elder' zq28 (Kd.R_base ho0) hb); have n1_ := Aside0.mk (Kd.R_lower (Kd.R_new' (Kd.R_newM (M := fun k_ => (w.heap.size ≤ k_)) ho0 (below_size zH) (fun k_ h_ => h_)) (Kd.R_lt zq28)) (below_size zH)); have n2_ := sB hb; revert n0_ n1_ n2_; clear HO366 HB; intro HO366 HO369 HB; (try clear hb); (try clear hb2); (try clear hk); (try clear hi); (try clear ho0); obtain ⟨Ao18, co18, eo18⟩ := Kd.R_slice HO369.out; subst eo18; have q19 : ((l1.length : Int) : Int) ≤ ((t367.length : Int) : Int) := of_decide_eq_true zq0; obtain ⟨i019, hi019, _, hsz19, _⟩ := info_parts info86; have hcut19 := cut_to (P := Tryd.prog) 74 86 .i64 Tryd.underlying74 hi019 Ao18 t367.length co18 (l1.length : Int) (of_decide_eq_true zq0) q19 (Kd.R_reads' HO369.out).2.1; have hr19 := Kd.R_take (m := ((l1.length : Int) : Int).toNat) HO369.out (by omega); have hy19 : y370.length = ((l1.length : Int) : Int).toNat := (by rw [Ny370.out, List.length_take]; omega); rw [← Ny370.out] at hr19; rw [← hy19] at hr19 hcut19; clear hy19 hi019 hsz19 HO369; have HO372 := Aside0.mk hr19; clear hr19; replace q19 := eq_true q19) | ((with_reducible refine gate_dst (N := 51) rfl ?_); refine Kd.R_make (Kd.int .u32) _ 86 rfl (N := 51) rfl 74 _ _ rfl ji13 rfl rfl Tryd.underlying74 (.int .u32 0) 4 info86 rfl (by decide) (by omega) 0 (ok := fun _ => True) (okp := fun _ => True) rfl (fun _ hk => hk) trivial (of_decide_eq_true zq0) (Nat.le_trans (Nat.mul_le_mul_right _ (of_decide_eq_true zq0 : ji13.toNat ≤ 70368744177664)) (by omega)) (Below.refl _ _) (Nat.le_refl _) ?_; intro v374 w20 ho21 hb hg_ hnew_; clear hg_ hnew_; (first | rw [← Ny373.out] at ho21 | (simp only [Int.reduceToNat] at ho21; rw [← Ny373.out] at ho21)); have n0_ := Aside0.mk (Kd.R_elder' zq28 (Kd.R_base ho21) hb); have n1_ := Aside0.mk (Kd.R_elder' (by (with_reducible repeat (first | apply Kd.R_alloc | apply Kd.R_drewN | apply Kd.R_drew)); exact HO372.out) (Kd.R_base ho21) hb); have n2_ := Aside0.mk (Kd.R_lower (Kd.R_new' (Kd.R_new' (Kd.R_newM (M := fun k_ => (w.heap.size ≤ k_)) ho21 (below_size zH) (fun k_ h_ => h_)) (Kd.R_lt zq28)) (Kd.R_lt (by (with_reducible repeat (first | apply Kd.R_alloc | apply Kd.R_drewN | apply Kd.R_drew)); exact HO372.out))) (below_size zH)); have n3_ := sB hb; revert n0_ n1_ n2_ n3_; clear HO366 HO372 HB; intro HO366 HO372 HO375 HB; clear hb ho21))
    go_loopg [11] k1 (fun kq v11 w' => ∃ (x8_2 : List Int) (x10_2 : List Int) (x11_2 : Int), v11 = .int .i64 x11_2 ∧ Aside0 (R1long.l1 kq (l1.length : Int) x7_1 x8_2 y370 x10_2 x11_2 = some (r1, r2)) ∧ Aside0 (kq ≤ k1) ∧ Aside0 (Kd.R (Kd.int .u32) 86 w' w.heap.size (fun k_ => (w.heap.size ≤ k_) ∧ some k_ ≠ ((.slice Ao18 y370.length co18) : Value).ownBlock ∧ some k_ ≠ (v374 : Value).ownBlock) v365 x8_2) ∧ Aside0 (Kd.R (Kd.int .u32) 86 w' w.heap.size (fun k_ => (w.heap.size ≤ k_) ∧ some k_ ≠ (v365 : Value).ownBlock ∧ some k_ ≠ (v374 : Value).ownBlock) (.slice Ao18 y370.length co18) y370) ∧ Aside0 (Kd.R (Kd.int .u32) 86 w' w.heap.size (fun k_ => (w.heap.size ≤ k_) ∧ some k_ ≠ (v365 : Value).ownBlock ∧ some k_ ≠ ((.slice Ao18 y370.length co18) : Value).ownBlock) v374 x10_2) ∧ Aside0 (Below w.heap.size w w'))
    case atStart => exact ⟨(t364), (y373), (wrap64 ((l0.length : Int) - (l1.length : Int))), zq1, H', ⟨Nat.le_refl _⟩, ⟨by (with_reducible repeat (first | apply Kd.R_alloc | apply Kd.R_drewN | apply Kd.R_drew)); exact Kd.R_mono HO366.out (fun _ hk => by (try simp only [own_len Ao18 (t367.length) (y370.length) co18] at hk); exact ⟨hk.1.1.1, ⟨hk.1.2, hk.2⟩⟩)⟩, ⟨by (with_reducible repeat (first | apply Kd.R_alloc | apply Kd.R_drewN | apply Kd.R_drew)); exact Kd.R_mono HO372.out (fun _ hk => by (try simp only [own_len Ao18 (t367.length) (y370.length) co18] at hk); exact ⟨hk.1.1.1, ⟨hk.1.2, hk.2⟩⟩)⟩, ⟨by (with_reducible repeat (first | apply Kd.R_alloc | apply Kd.R_drewN | apply Kd.R_drew)); exact Kd.R_mono HO375.out (fun _ hk => by (try simp only [own_len Ao18 (t367.length) (y370.length) co18] at hk); exact ⟨hk.1.1.1, ⟨hk.1.2, hk.2⟩⟩)⟩, ⟨zH⟩⟩
    case round =>
     clear H'
     obtain ⟨x8_2, x10_2, x11_2, rfl, HA, HK2, HO_8, HO_9, HO_10, HB⟩ := hrel
     cases gk with
     | zero => exact absurd HA.out (by simp [R1long.l1])
     | succ k2 =>
      have H := HA.out
      clear HA
      simp only [R1long.l1] at H
      by_cases c22 : x11_2 ≥ 0
      ·rw [if_pos c22] at H
       have c22b0 := decide_eq_true c22
       clear c22
       obtain ⟨ji23, hji23, hji23w⟩ := jI (x11_2 + (l1.length : Int))
       first | rw [hji23] at H | simp only [hji23] at H
       replace H := iteD H
       obtain ⟨c24b0, H⟩ := H
       replace H := iteD H
       obtain ⟨c25b0, H⟩ := H
       obtain ⟨ji26, hji26, hji26w⟩ := jI ((ji23) - 1)
       first | rw [hji26] at H | simp only [hji26] at H
       replace H := iteD H
       obtain ⟨c27b0, H⟩ := H
       replace H := iteD H
       obtain ⟨c28b0, H⟩ := H
       obtain ⟨ji29, hji29, hji29w⟩ := jI ((l1.length : Int) - 1)
       first | rw [hji29] at H | simp only [hji29] at H
       (try clear hji3w); (try clear hji3)
       replace H := iteD H
       obtain ⟨c30b0, H⟩ := H
       replace H := iteD H
       obtain ⟨c31b0, H⟩ := H
       by_cases c32 : (IntKind.u64.wrap (rd y370 (ji29))) = 0
       ·rw [if_pos c32] at H
        exact absurd H (by simp)
       ·rw [if_neg c32] at H
        have c32b0 := beq_eq_false_iff_ne.mpr c32
        have c32b1 := bne_iff_ne.mpr c32
        have HC33 := Aside0.mk H
        clear H
        try go_wp2
        have n0_ := Aside0.mk (Kd.R_drew HO_8.out)
        have n1_ := Aside0.mk (Kd.R_drew HO_9.out)
        have n2_ := Aside0.mk (Kd.R_drew HO_10.out)
        have n3_ := Aside0.mk (below_drew1 HB.out)
        revert n0_ n1_ n2_ n3_
        clear HO_8 HO_9 HO_10 HB
        intro HO_8 HO_9 HO_10 HB
        obtain ⟨Ao35, co35, eo35⟩ := Kd.R_slice HO_8.out
        (first | subst eo35 | (injection eo35 with f1_ f2_ f3_; have f4_ := f1_.symm; have f5_ := f3_.symm; clear f1_ f2_ f3_; subst f4_; subst f5_))
        obtain ⟨ad376, e376, hx376_0, p376, q376⟩ := atI (Kd.R_reads' HO_8.out).2.2 (ji23)
        cases e376
        obtain ⟨ad377, e377, hx377_0, p377, q377⟩ := atI (Kd.R_reads' HO_8.out).2.2 (ji26)
        obtain rfl : ad376 = ad377 := (by injection e377)
        refine start_ (n := 18) (S := fun w' => w'.cell? (ad376.add ((ji23)).toNat) = some (.int .u32 (rd x8_2 (ji23))) ∧ w'.cell? (ad376.add ((ji26)).toNat) = some (.int .u32 (rd x8_2 (ji26)))) (ds := []) #[false, false, false, false, false, false, false, false, false, false, false, false, false, false, false, false, false, false] (by kernel_rfl) rfl rfl ⟨hx376_0, hx377_0⟩ (fun hHeld => ?_); refine with_tabW R1long.tab11 R1long.bits11 (fun HT_ HW_ => ?_)
        generalize wr.drew = w34 at HO_8 HO_9 HO_10 HB hx376_0 hx377_0 hHeld ⊢
        refine pureA 0 60 (lB 18 1) rfl rfl ?_
        refine pureA 1 61 (lB 18 3) rfl rfl ?_
        refine pureA 2 62 (lB 18 7) rfl rfl ?_
        refine pureA 3 63 (lB 18 15) rfl rfl ?_
        refine pureA 4 64 (lB 18 31) rfl rfl ?_
        refine pureA 8 68 (lB 18 287) rfl rfl ?_
        refine pureA 9 69 (lB 18 799) rfl rfl ?_
        refine pureA 10 70 (lB 18 1823) rfl rfl ?_
        refine pureA 11 71 (lB 18 3871) rfl rfl ?_
        refine pureA 12 72 (lB 18 7967) rfl rfl ?_
        refine pureA 13 73 (lB 18 16159) rfl rfl ?_
        refine takeA 5 65 (lB 18 16191) rfl rfl hHeld ?_
        refine pureA 6 66 (lB 18 16255) rfl rfl ?_
        refine pureA 7 67 (lB 18 16383) rfl rfl ?_
        refine takeA 14 74 (lB 18 32767) rfl rfl hHeld ?_
        refine pureA 15 75 (lB 18 65535) rfl rfl ?_
        refine pureA 16 76 (lB 18 131071) rfl rfl ?_
        refine pureA 17 12 (lB 18 262143) rfl rfl ?_
        refine done_ (done_of HT_.out (by kernel_rfl)) ?_
        obtain ⟨ad378, e378, hx378_0, p378, q378⟩ := atI (Kd.R_reads' HO_9.out).2.2 (ji29)
        cases e378
        obtain ⟨ad379, e379, hx379_0, p379, q379⟩ := atI (Kd.R_reads' HO_9.out).2.2 (ji29)
        obtain rfl : ad378 = ad379 := (by injection e379)
        go_upto_block 4 with (fail)
        go_cut [13] (fun v13 wc => ∃ (kq : Nat) (x13_32 : Int), v13 = .int .u64 x13_32 ∧ Aside0 (R1long.j4 kq (l1.length : Int) x7_1 x8_2 y370 x10_2 x11_2 x13_32 = some (r1, r2)) ∧ Aside0 (kq ≤ k2) ∧ Aside0 (Kd.R (Kd.int .u32) 86 wc w.heap.size (fun k_ => (w.heap.size ≤ k_) ∧ some k_ ≠ ((.slice (some ad378) y370.length co18) : Value).ownBlock ∧ some k_ ≠ (v374 : Value).ownBlock) (.slice (some ad376) x8_2.length co35) x8_2) ∧ Aside0 (Kd.R (Kd.int .u32) 86 wc w.heap.size (fun k_ => (w.heap.size ≤ k_) ∧ some k_ ≠ ((.slice (some ad376) x8_2.length co35) : Value).ownBlock ∧ some k_ ≠ (v374 : Value).ownBlock) (.slice (some ad378) y370.length co18) y370) ∧ Aside0 (Kd.R (Kd.int .u32) 86 wc w.heap.size (fun k_ => (w.heap.size ≤ k_) ∧ some k_ ≠ ((.slice (some ad376) x8_2.length co35) : Value).ownBlock ∧ some k_ ≠ ((.slice (some ad378) y370.length co18) : Value).ownBlock) v374 x10_2) ∧ Aside0 (Below w.heap.size w wc))
        case first =>
         have H := HC33.out
         clear HC33
         have H' := Aside0.mk H
         clear H
         go_wp2
         go_loopg [13, 14] k2 (fun kq v13 v14 w' => ∃ (x13_3 : Int) (x14_3 : Int), v13 = .int .u64 x13_3 ∧ v14 = .int .u64 x14_3 ∧ Aside0 (R1long.l2 kq (l1.length : Int) x7_1 x8_2 y370 x10_2 x11_2 x13_3 x14_3 = some (r1, r2)) ∧ Aside0 (kq ≤ k2) ∧ Aside0 (Kd.R (Kd.int .u32) 86 w' w.heap.size (fun k_ => (w.heap.size ≤ k_) ∧ some k_ ≠ ((.slice (some ad378) y370.length co18) : Value).ownBlock ∧ some k_ ≠ (v374 : Value).ownBlock) (.slice (some ad376) x8_2.length co35) x8_2) ∧ Aside0 (Kd.R (Kd.int .u32) 86 w' w.heap.size (fun k_ => (w.heap.size ≤ k_) ∧ some k_ ≠ ((.slice (some ad376) x8_2.length co35) : Value).ownBlock ∧ some k_ ≠ (v374 : Value).ownBlock) (.slice (some ad378) y370.length co18) y370) ∧ Aside0 (Kd.R (Kd.int .u32) 86 w' w.heap.size (fun k_ => (w.heap.size ≤ k_) ∧ some k_ ≠ ((.slice (some ad376) x8_2.length co35) : Value).ownBlock ∧ some k_ ≠ ((.slice (some ad378) y370.length co18) : Value).ownBlock) v374 x10_2) ∧ Aside0 (Below w.heap.size w w'))
         case atStart => exact ⟨(IntKind.u64.wrap (Int.tdiv (Go.bits .or .u64 (IntKind.u64.wrap ((IntKind.u64.wrap (rd x8_2 (ji23))) * 4294967296)) (IntKind.u64.wrap (rd x8_2 (ji26)))) (IntKind.u64.wrap (rd y370 (ji29))))), (Int.tmod (Go.bits .or .u64 (IntKind.u64.wrap ((IntKind.u64.wrap (rd x8_2 (ji23))) * 4294967296)) (IntKind.u64.wrap (rd x8_2 (ji26)))) (IntKind.u64.wrap (rd y370 (ji29)))), (by first | rfl | (simp; done) | (simp only [← hji23, ← hji26, ← hji29] <;> (first | rfl | simp)) | (simp [*]; done)), (by first | rfl | (simp; done) | (simp only [← hji23, ← hji26, ← hji29] <;> (first | rfl | simp)) | (simp [*]; done)), H', ⟨Nat.le_refl _⟩, ⟨by (with_reducible repeat (first | apply Kd.R_alloc | apply Kd.R_drewN | apply Kd.R_drew)); exact HO_8.out⟩, ⟨by (with_reducible repeat (first | apply Kd.R_alloc | apply Kd.R_drewN | apply Kd.R_drew)); exact HO_9.out⟩, ⟨by (with_reducible repeat (first | apply Kd.R_alloc | apply Kd.R_drewN | apply Kd.R_drew)); exact HO_10.out⟩, ⟨zH⟩⟩
         case round =>
          clear H'
          obtain ⟨x13_3, x14_3, rfl, rfl, HA, HK3, HO_8, HO_9, HO_10, HB⟩ := hrel
          cases gk with
          | zero => exact absurd HA.out (by simp [R1long.l2])
          | succ k3 =>
           have H := HA.out
           clear HA
           simp only [R1long.l2] at H
           have HC36 := Aside0.mk H
           clear H
           go_upto_region 14 with (fail)
           go_cut [116] (fun v116 wc => ∃ (kq : Nat) (x116_35 : Bool), v116 = .bool x116_35 ∧ Aside0 (R1long.j3 kq (l1.length : Int) x7_1 x8_2 y370 x10_2 x11_2 x13_3 x14_3 x116_35 = some (r1, r2)) ∧ Aside0 (kq ≤ k3) ∧ Aside0 (Kd.R (Kd.int .u32) 86 wc w.heap.size (fun k_ => (w.heap.size ≤ k_) ∧ some k_ ≠ ((.slice (some ad378) y370.length co18) : Value).ownBlock ∧ some k_ ≠ (v374 : Value).ownBlock) (.slice (some ad376) x8_2.length co35) x8_2) ∧ Aside0 (Kd.R (Kd.int .u32) 86 wc w.heap.size (fun k_ => (w.heap.size ≤ k_) ∧ some k_ ≠ ((.slice (some ad376) x8_2.length co35) : Value).ownBlock ∧ some k_ ≠ (v374 : Value).ownBlock) (.slice (some ad378) y370.length co18) y370) ∧ Aside0 (Kd.R (Kd.int .u32) 86 wc w.heap.size (fun k_ => (w.heap.size ≤ k_) ∧ some k_ ≠ ((.slice (some ad376) x8_2.length co35) : Value).ownBlock ∧ some k_ ≠ ((.slice (some ad378) y370.length co18) : Value).ownBlock) v374 x10_2) ∧ Aside0 (Below w.heap.size w wc))
           case first =>
            have H := HC36.out
            clear HC36
            by_cases c37 : x13_3 ≥ 4294967296
            ·rw [if_pos c37] at H
             have c37b0 := decide_eq_true c37
             clear c37
             (first | rw [c37b0] | (simp only [i64_w, i32_w]; rw [c37b0]) | rw [c37b1] | skip)
             have H' := Aside0.mk H
             clear H
             try go_wp2
             have n0_ := Aside0.mk (Kd.R_drew HO_8.out)
             have n1_ := Aside0.mk (Kd.R_drew HO_9.out)
             have n2_ := Aside0.mk (Kd.R_drew HO_10.out)
             have n3_ := Aside0.mk (below_drew1 HB.out)
             revert n0_ n1_ n2_ n3_
             clear HO_8 HO_9 HO_10 HB
             intro HO_8 HO_9 HO_10 HB
             refine start_ (n := 24) (S := fun w' => True) (ds := []) #[false, false, false, false, false, false, false, false, false, false, false, false, false, false, false, false, false, false, false, false, false, false, false, false] (by kernel_rfl) rfl rfl trivial (fun hHeld => ?_); refine with_tabW R1long.tab14 R1long.bits14 (fun HT_ HW_ => ?_)
             generalize wr.drew = w38 at HO_8 HO_9 HO_10 HB hHeld ⊢
             refine pureA 0 93 (lB 24 1) rfl rfl ?_
             refine pureA 1 94 (lB 24 3) rfl rfl ?_
             refine pureA 2 95 (lB 24 7) rfl rfl ?_
             refine undA 3 96 (lB 24 15) rfl rfl ?_
             refine undA 4 97 (lB 24 31) rfl rfl ?_
             refine undA 5 98 (lB 24 63) rfl rfl ?_
             refine undA 6 99 (lB 24 127) rfl rfl ?_
             refine undA 7 100 (lB 24 255) rfl rfl ?_
             refine undA 8 101 (lB 24 511) rfl rfl ?_
             refine undA 9 102 (lB 24 1023) rfl rfl ?_
             refine undA 10 103 (lB 24 2047) rfl rfl ?_
             refine undA 11 104 (lB 24 4095) rfl rfl ?_
             refine undA 12 105 (lB 24 8191) rfl rfl ?_
             refine undA 13 106 (lB 24 16383) rfl rfl ?_
             refine undA 14 107 (lB 24 32767) rfl rfl ?_
             refine undA 15 108 (lB 24 65535) rfl rfl ?_
             refine undA 16 109 (lB 24 131071) rfl rfl ?_
             refine undA 17 110 (lB 24 262143) rfl rfl ?_
             refine undA 18 111 (lB 24 524287) rfl rfl ?_
             refine undA 19 112 (lB 24 1048575) rfl rfl ?_
             refine undA 20 113 (lB 24 2097151) rfl rfl ?_
             refine undA 21 114 (lB 24 4194303) rfl rfl ?_
             refine undA 22 115 (lB 24 8388607) rfl rfl ?_
             refine pureA 23 116 (lB 24 16777215) rfl rfl ?_
             refine done_ (done_of HT_.out (by kernel_rfl)) ?_
             try go_wp2
             go_meet
             case rel => exact ⟨_, (true), zq1, H', ⟨by have := HK1.out; have := HK2.out; have := HK3.out; first | omega | exact Nat.le_refl _⟩, ⟨by (with_reducible repeat (first | apply Kd.R_alloc | apply Kd.R_drewN | apply Kd.R_drew)); exact HO_8.out⟩, ⟨by (with_reducible repeat (first | apply Kd.R_alloc | apply Kd.R_drewN | apply Kd.R_drew)); exact HO_9.out⟩, ⟨by (with_reducible repeat (first | apply Kd.R_alloc | apply Kd.R_drewN | apply Kd.R_drew)); exact HO_10.out⟩, ⟨zH⟩⟩
            ·rw [if_neg c37] at H
             have c37b0 := decide_eq_false c37
             clear c37
             (first | rw [c37b0] | (simp only [i64_w, i32_w]; rw [c37b0]) | rw [c37b1] | skip)
             obtain ⟨ji39, hji39, hji39w⟩ := jI ((l1.length : Int) - 2)
             first | rw [hji39] at H | simp only [hji39] at H
             replace H := iteD H
             obtain ⟨c40b0, H⟩ := H
             replace H := iteD H
             obtain ⟨c41b0, H⟩ := H
             obtain ⟨ji42, hji42, hji42w⟩ := jI ((wrap64 (x11_2 + (l1.length : Int))) - 2)
             first | rw [hji42] at H | simp only [hji42] at H
             (try have hji42vji23 : (wrap64 ((ji23) - 2)) = ji42 := by (rw [← hji23]; exact hji42))
             (try have hji42xji23 : (IntKind.i64.wrap ((ji23) - 2)) = ji42 := (i64_w _).trans hji42vji23)
             replace H := iteD H
             obtain ⟨c43b0, H⟩ := H
             replace H := iteD H
             obtain ⟨c44b0, H⟩ := H
             have H' := Aside0.mk H
             clear H
             try go_wp2
             have n0_ := Aside0.mk (Kd.R_drew HO_8.out)
             have n1_ := Aside0.mk (Kd.R_drew HO_9.out)
             have n2_ := Aside0.mk (Kd.R_drew HO_10.out)
             have n3_ := Aside0.mk (below_drew1 HB.out)
             revert n0_ n1_ n2_ n3_
             clear HO_8 HO_9 HO_10 HB
             intro HO_8 HO_9 HO_10 HB
             obtain ⟨ad380, e380, hx380_0, p380, q380⟩ := atI (Kd.R_reads' HO_9.out).2.2 (ji39)
             obtain rfl : ad378 = ad380 := (by injection e380)
             obtain ⟨ad381, e381, hx381_0, p381, q381⟩ := atI (Kd.R_reads' HO_8.out).2.2 (ji42)
             obtain rfl : ad376 = ad381 := (by injection e381)
             refine start_ (n := 24) (S := fun w' => w'.cell? (ad378.add ((ji39)).toNat) = some (.int .u32 (rd y370 (ji39))) ∧ w'.cell? (ad376.add ((ji42)).toNat) = some (.int .u32 (rd x8_2 (ji42)))) (ds := []) #[false, false, false, false, false, false, false, false, false, false, false, false, false, false, false, false, false, false, false, false, false, false, false, false] (by kernel_rfl) rfl rfl ⟨hx380_0, hx381_0⟩ (fun hHeld => ?_); refine with_tabW R1long.tab14 R1long.bits14 (fun HT_ HW_ => ?_)
             generalize wr.drew = w45 at HO_8 HO_9 HO_10 HB hx380_0 hx381_0 hHeld ⊢
             refine pureA 0 93 (lB 24 1) rfl rfl ?_
             refine pureA 1 94 (lB 24 3) rfl rfl ?_
             refine pureA 2 95 (lB 24 7) rfl rfl ?_
             refine pureA 3 96 (lB 24 15) rfl rfl ?_
             refine pureA 4 97 (lB 24 31) rfl rfl ?_
             refine pureA 5 98 (lB 24 63) rfl rfl ?_
             refine pureA 6 99 (lB 24 127) rfl rfl ?_
             refine pureA 7 100 (lB 24 255) rfl rfl ?_
             refine pureA 11 104 (lB 24 2303) rfl rfl ?_
             refine pureA 12 105 (lB 24 6399) rfl rfl ?_
             refine pureA 13 106 (lB 24 14591) rfl rfl ?_
             refine pureA 14 107 (lB 24 30975) rfl rfl ?_
             refine pureA 15 108 (lB 24 63743) rfl rfl ?_
             refine pureA 16 109 (lB 24 129279) rfl rfl ?_
             refine pureA 17 110 (lB 24 260351) rfl rfl ?_
             refine pureA 18 111 (lB 24 522495) rfl rfl ?_
             refine takeA 8 101 (lB 24 522751) rfl rfl hHeld ?_
             refine pureA 9 102 (lB 24 523263) rfl rfl ?_
             refine pureA 10 103 (lB 24 524287) rfl rfl ?_
             refine takeA 19 112 (lB 24 1048575) rfl rfl hHeld ?_
             refine pureA 20 113 (lB 24 2097151) rfl rfl ?_
             refine pureA 21 114 (lB 24 4194303) rfl rfl ?_
             refine pureA 22 115 (lB 24 8388607) rfl rfl ?_
             refine pureA 23 116 (lB 24 16777215) rfl rfl ?_
             refine done_ (done_of HT_.out (by kernel_rfl)) ?_
             try go_wp2
             go_meet
             case rel => exact ⟨_, (decide ((IntKind.u64.wrap (x13_3 * (IntKind.u64.wrap (rd y370 (ji39))))) > (Go.bits .or .u64 (IntKind.u64.wrap (x14_3 * 4294967296)) (IntKind.u64.wrap (rd x8_2 (ji42)))))), (by first | rfl | (simp; done) | (simp only [← hji39, ← hji42] <;> (first | rfl | simp)) | (simp [*]; done)), H', ⟨by have := HK1.out; have := HK2.out; have := HK3.out; first | omega | exact Nat.le_refl _⟩, ⟨by (with_reducible repeat (first | apply Kd.R_alloc | apply Kd.R_drewN | apply Kd.R_drew)); exact HO_8.out⟩, ⟨by (with_reducible repeat (first | apply Kd.R_alloc | apply Kd.R_drewN | apply Kd.R_drew)); exact HO_9.out⟩, ⟨by (with_reducible repeat (first | apply Kd.R_alloc | apply Kd.R_drewN | apply Kd.R_drew)); exact HO_10.out⟩, ⟨zH⟩⟩
           case rest =>
            clear HC36
            obtain ⟨kq, x116_35, rfl, HA, HJ35, HO_8, HO_9, HO_10, HB⟩ := hcut
            cases kq with
            | zero => exact absurd HA.out (by simp [R1long.j3])
            | succ kj35 =>
             have H := HA.out
             clear HA
             simp only [R1long.j3] at H
             by_cases c46 : x116_35 = true
             ·subst c46
              have H1 : (if 0 ≤ (wrap64 ((l1.length : Int) - 1)) then (if (wrap64 ((l1.length : Int) - 1)) < (y370.length : Int) then (if (IntKind.u64.wrap (x14_3 + (IntKind.u64.wrap (rd y370 (wrap64 ((l1.length : Int) - 1)))))) ≥ 4294967296 then (R1long.j4 kj35 (l1.length : Int) x7_1 x8_2 y370 x10_2 x11_2 (IntKind.u64.wrap (x13_3 - 1))) else (R1long.l2 kj35 (l1.length : Int) x7_1 x8_2 y370 x10_2 x11_2 (IntKind.u64.wrap (x13_3 - 1)) (IntKind.u64.wrap (x14_3 + (IntKind.u64.wrap (rd y370 (wrap64 ((l1.length : Int) - 1)))))))) else (none)) else (none)) = some (r1, r2) := by rw [if_pos rfl] at H; exact H
              clear H
              have H := H1
              clear H1
              obtain ⟨ji47, hji47, hji47w⟩ := jI ((l1.length : Int) - 1)
              first | rw [hji47] at H | simp only [hji47] at H
              (try clear hji3w); (try clear hji3); (try clear hji29w); (try clear hji29)
              replace H := iteD H
              obtain ⟨c48b0, H⟩ := H
              replace H := iteD H
              obtain ⟨c49b0, H⟩ := H
              by_cases c50 : (IntKind.u64.wrap (x14_3 + (IntKind.u64.wrap (rd y370 (ji47))))) ≥ 4294967296
              ·rw [if_pos c50] at H
               have c50b0 := decide_eq_true c50
               clear c50
               have H' := Aside0.mk H
               clear H
               obtain ⟨ad382, e382, hx382_0, p382, q382⟩ := atI (Kd.R_reads' HO_9.out).2.2 (ji47)
               obtain rfl : ad378 = ad382 := (by injection e382)
               go_wp2
               go_meet
               case rel => exact ⟨_, (IntKind.u64.wrap (x13_3 - 1)), zq1, H', ⟨by have := HK1.out; have := HK2.out; have := HK3.out; have := HJ35.out; first | omega | exact Nat.le_refl _⟩, ⟨by (with_reducible repeat (first | apply Kd.R_alloc | apply Kd.R_drewN | apply Kd.R_drew)); exact HO_8.out⟩, ⟨by (with_reducible repeat (first | apply Kd.R_alloc | apply Kd.R_drewN | apply Kd.R_drew)); exact HO_9.out⟩, ⟨by (with_reducible repeat (first | apply Kd.R_alloc | apply Kd.R_drewN | apply Kd.R_drew)); exact HO_10.out⟩, ⟨zH⟩⟩
              ·rw [if_neg c50] at H
               have c50b0 := decide_eq_false c50
               clear c50
               have H' := Aside0.mk H
               clear H
               obtain ⟨ad382, e382, hx382_0, p382, q382⟩ := atI (Kd.R_reads' HO_9.out).2.2 (ji47)
               obtain rfl : ad378 = ad382 := (by injection e382)
               go_wp2
               first | go_roundg kj35 | (simp only [← add_plain _ ji23.toNat, ← add_plain _ ji26.toNat]; go_roundg kj35)
               case measure => have := HK1.out; have := HK2.out; have := HK3.out; have := HJ35.out; omega
               case rel => exact ⟨(IntKind.u64.wrap (x13_3 - 1)), (IntKind.u64.wrap (x14_3 + (IntKind.u64.wrap (rd y370 (ji47))))), zq1, (by first | rfl | (simp; done) | (simp only [← hji47] <;> (first | rfl | simp)) | (simp [*]; done)), H', ⟨by have := HK1.out; have := HK2.out; have := HK3.out; have := HJ35.out; omega⟩, ⟨by (with_reducible repeat (first | apply Kd.R_alloc | apply Kd.R_drewN | apply Kd.R_drew)); exact HO_8.out⟩, ⟨by (with_reducible repeat (first | apply Kd.R_alloc | apply Kd.R_drewN | apply Kd.R_drew)); exact HO_9.out⟩, ⟨by (with_reducible repeat (first | apply Kd.R_alloc | apply Kd.R_drewN | apply Kd.R_drew)); exact HO_10.out⟩, ⟨zH⟩⟩
             ·replace c46 := Bool.eq_false_iff.mpr c46
              subst c46
              have H1 : (R1long.j4 kj35 (l1.length : Int) x7_1 x8_2 y370 x10_2 x11_2 x13_3) = some (r1, r2) := by rw [if_neg (show ¬ (false = true) by decide)] at H; exact H
              clear H
              have H := H1
              clear H1
              have H' := Aside0.mk H
              clear H
              go_wp2
              go_meet
              case rel => exact ⟨_, (x13_3), zq1, H', ⟨by have := HK1.out; have := HK2.out; have := HK3.out; have := HJ35.out; first | omega | exact Nat.le_refl _⟩, ⟨by (with_reducible repeat (first | apply Kd.R_alloc | apply Kd.R_drewN | apply Kd.R_drew)); exact HO_8.out⟩, ⟨by (with_reducible repeat (first | apply Kd.R_alloc | apply Kd.R_drewN | apply Kd.R_drew)); exact HO_9.out⟩, ⟨by (with_reducible repeat (first | apply Kd.R_alloc | apply Kd.R_drewN | apply Kd.R_drew)); exact HO_10.out⟩, ⟨zH⟩⟩
        case rest =>
         clear HC33
         obtain ⟨kq, x13_32, rfl, HA, HJ32, HO_8, HO_9, HO_10, HB⟩ := hcut
         cases kq with
         | zero => exact absurd HA.out (by simp [R1long.j4])
         | succ kj32 =>
          have H := HA.out
          clear HA
          simp only [R1long.j4] at H
          have H' := Aside0.mk H
          clear H
          go_wp2
          as_aux_lemma =>
           go_loopg [15, 16, 17] kj32 (fun kq v15 v16 v17 w' => ∃ (x8_4 : List Int) (x15_4 : Int) (x16_4 : Int) (x17_4 : Int), v15 = .int .u64 x15_4 ∧ v16 = .int .u64 x16_4 ∧ v17 = .int .i64 x17_4 ∧ Aside0 (R1long.l3 kq (l1.length : Int) x7_1 x8_4 y370 x10_2 x11_2 x13_32 x15_4 x16_4 x17_4 = some (r1, r2)) ∧ Aside0 (kq ≤ kj32) ∧ Aside0 (Kd.R (Kd.int .u32) 86 w' w.heap.size (fun k_ => (w.heap.size ≤ k_) ∧ some k_ ≠ ((.slice (some ad378) y370.length co18) : Value).ownBlock ∧ some k_ ≠ (v374 : Value).ownBlock) (.slice (some ad376) x8_2.length co35) x8_4) ∧ Aside0 (Kd.R (Kd.int .u32) 86 w' w.heap.size (fun k_ => (w.heap.size ≤ k_) ∧ some k_ ≠ ((.slice (some ad376) x8_2.length co35) : Value).ownBlock ∧ some k_ ≠ (v374 : Value).ownBlock) (.slice (some ad378) y370.length co18) y370) ∧ Aside0 (Kd.R (Kd.int .u32) 86 w' w.heap.size (fun k_ => (w.heap.size ≤ k_) ∧ some k_ ≠ ((.slice (some ad376) x8_2.length co35) : Value).ownBlock ∧ some k_ ≠ ((.slice (some ad378) y370.length co18) : Value).ownBlock) v374 x10_2) ∧ Aside0 (Below w.heap.size w w'))
           case atStart => exact ⟨(x8_2), (0), (0), (0), zq1, zq1, zq1, H', ⟨Nat.le_refl _⟩, ⟨by (with_reducible repeat (first | apply Kd.R_alloc | apply Kd.R_drewN | apply Kd.R_drew)); exact HO_8.out⟩, ⟨by (with_reducible repeat (first | apply Kd.R_alloc | apply Kd.R_drewN | apply Kd.R_drew)); exact HO_9.out⟩, ⟨by (with_reducible repeat (first | apply Kd.R_alloc | apply Kd.R_drewN | apply Kd.R_drew)); exact HO_10.out⟩, ⟨zH⟩⟩
           case round =>
            clear H'
            obtain ⟨x8_4, x15_4, x16_4, x17_4, rfl, rfl, rfl, HA, HK4, HO_8, HO_9, HO_10, HB⟩ := hrel
            have hl8_4 := (Kd.R_reads' HO_8.out).1
            rw [hl8_4] at HO_8
            (try simp only [hl8_4])
            (try simp only [hl8_4] at HO_9)
            (try simp only [hl8_4] at HO_10)
            cases gk with
            | zero => exact absurd HA.out (by simp [R1long.l3])
            | succ k4 =>
             have H := HA.out
             clear HA
             simp only [R1long.l3] at H
             by_cases c51 : x17_4 < (l1.length : Int)
             ·rw [if_pos c51] at H
              have c51b0 := decide_eq_true c51
              (try (have c51x0 := c51b0; simp only [hl8_4] at c51x0))
              clear c51
              replace H := iteD H
              obtain ⟨c52b0, H⟩ := H
              replace H := of_ite H
              obtain ⟨c53, H⟩ := H
              have c53b0 := decide_eq_true c53
              (try (have c53x0 := c53b0; simp only [hl8_4] at c53x0))
              clear c53
              obtain ⟨ji54, hji54, hji54w⟩ := jI (x11_2 + x17_4)
              first | rw [hji54] at H | simp only [hji54] at H
              replace H := iteD H
              obtain ⟨c55b0, H⟩ := H
              replace H := of_ite H
              obtain ⟨c56, H⟩ := H
              have c56b0 := decide_eq_true c56
              (try (have c56x0 := c56b0; simp only [hl8_4] at c56x0))
              clear c56
              by_cases c57 : (IntKind.u64.wrap (rd x8_4 (ji54))) < (IntKind.u64.wrap ((Go.bits .and .u64 (IntKind.u64.wrap (x15_4 + (IntKind.u64.wrap (x13_32 * (IntKind.u64.wrap (rd y370 x17_4)))))) 4294967295) + x16_4))
              ·rw [if_pos c57] at H
               have c57b0 := decide_eq_true c57
               clear c57
               obtain ⟨y385, hy385⟩ : ∃ y_ : List Int, y_ = (x8_4.set ((ji54) : Int).toNat ((IntKind.u64.wrap ((IntKind.u64.wrap ((IntKind.u64.wrap (rd x8_4 (ji54))) + 4294967296)) - (IntKind.u64.wrap ((Go.bits .and .u64 (IntKind.u64.wrap (x15_4 + (IntKind.u64.wrap (x13_32 * (IntKind.u64.wrap (rd y370 x17_4)))))) 4294967295) + x16_4)))) % 4294967296)) := ⟨_, rfl⟩
               (try rw [Option.bind_some] at H); (try rw [← hy385] at H)
               have Ny385 := Aside0.mk hy385
               clear hy385
               have H' := Aside0.mk H
               clear H
               obtain ⟨ad383, e383, hx383_0, p383, q383⟩ := atI (Kd.R_reads' HO_9.out).2.2 x17_4
               obtain rfl : ad378 = ad383 := (by injection e383)
               obtain ⟨ad384, e384, hx384_0, p384, q384⟩ := atI (Kd.R_reads' HO_8.out).2.2 (ji54)
               obtain rfl : ad376 = ad384 := (by injection e384)
               have p58 : 0 ≤ ((ji54) : Int) := of_decide_eq_true zq0
               have q58 : ((ji54) : Int) < ((x8_4.length : Int) : Int) := of_decide_eq_true zq0
               obtain ⟨go58, co58, eo58, gb58, gl58, cl58, HG58⟩ := Kd.R_form HO_8.out (by omega)
               (first | cases eo58 | (injection eo58 with ea_ en_ ec_; (first | subst ea_ | (injection ea_ with ea_; subst ea_)); subst ec_; clear en_))
               have GB58 := Aside0.mk gb58
               have GG58 := Aside0.mk HG58
               clear gb58 gl58 HG58
               (first | simp only [add_plain] at hx376_0 | skip)
               (first | simp only [add_plain] at hx377_0 | skip)
               (first | simp only [add_plain] at hx381_0 | skip)
               (first | simp only [add_plain] at hx384_0 | skip)
               obtain ⟨hx58_0, hf58_0⟩ := Kd.R_celln 0 HO_8.out ((ji54) : Int) p58 q58
               (try simp only [Go.IntWalk.toNatUp] at hx58_0 hf58_0)
               replace p58 := eq_true p58
               replace q58 := eq_true q58
               have HP59 := Kd.R_putg HO_8.out ((ji54) : Int) ((IntKind.u64.wrap ((IntKind.u64.wrap ((IntKind.u64.wrap (rd x8_4 (ji54))) + 4294967296)) - (IntKind.u64.wrap ((Go.bits .and .u64 (IntKind.u64.wrap (x15_4 + (IntKind.u64.wrap (x13_32 * (IntKind.u64.wrap (rd y370 x17_4)))))) 4294967295) + x16_4)))) % 4294967296)
               go_wp2_with (first | ((with_reducible refine gate_store (t := 86) (p := 169) rfl ?_); refine store_event (t := 86) (p := 169) (v := ?vo_w60) (w1 := (wr.setCell ⟨go58, ((ji54) : Int).toNat, none⟩ (.int .u32 ((IntKind.u64.wrap ((IntKind.u64.wrap ((IntKind.u64.wrap (rd x8_4 (ji54))) + 4294967296)) - (IntKind.u64.wrap ((Go.bits .and .u64 (IntKind.u64.wrap (x15_4 + (IntKind.u64.wrap (x13_32 * (IntKind.u64.wrap (rd y370 x17_4)))))) 4294967295) + x16_4)))) % 4294967296)))) ?hg ?ho ?hn ?hr ?_; (case ho => rfl); (case hg => rfl); (case hn => rfl); (case hr => first | (go_simp; done) | (go_simp; rfl)); intro w60 hw; have hg : wr.grownBy w60 (some go58) := (by rw [hw]; exact HP59.2); have hp_ : Kd.R (Kd.int .u32) 86 w60 w.heap.size (fun k_ => (w.heap.size ≤ k_) ∧ some k_ ≠ (.slice (some ad378) y370.length co18 : Value).ownBlock ∧ some k_ ≠ (v374 : Value).ownBlock) (.slice (some ⟨go58, 0, none⟩) x8_4.length co35) y385 := (by rw [hw, Ny385.out]; exact HP59.1); clear HP59; have n0_ := Aside0.mk (hp_); have n1_ := Aside0.mk (Kd.R_after (v := (.slice (some ⟨go58, 0, none⟩) x8_4.length co35)) (v1 := (.slice (some ⟨go58, 0, none⟩) x8_4.length co35)) (ok := (fun k_ => (w.heap.size ≤ k_) ∧ some k_ ≠ (v374 : Value).ownBlock)) zq16 hg (.inl rfl)); have n2_ := Aside0.mk (Kd.R_after (v := (.slice (some ⟨go58, 0, none⟩) x8_4.length co35)) (v1 := (.slice (some ⟨go58, 0, none⟩) x8_4.length co35)) (ok := (fun k_ => (w.heap.size ≤ k_) ∧ some k_ ≠ (.slice (some ad378) y370.length co18 : Value).ownBlock)) zq17 hg (.inl rfl)); have n3_ := Aside0.mk ((by rw [hw]; exact below_set (HB.out) GB58.out : Below w.heap.size w w60)); revert n0_ n1_ n2_ n3_; clear HO_8 HO_9 HO_10 HB; intro HO_8 HO_9 HO_10 HB; clear hg hw hp_))
               (try simp only [← hl8_4])
               first | go_roundg k4 | (simp only [← add_plain _ ji23.toNat, ← add_plain _ ji26.toNat]; go_roundg k4)
               case measure => have := HK1.out; have := HK2.out; have := HJ32.out; have := HK4.out; omega
               case rel => exact ⟨(y385), ((IntKind.u64.wrap (x15_4 + (IntKind.u64.wrap (x13_32 * (IntKind.u64.wrap (rd y370 x17_4)))))) / 4294967296), (1), (wrap64 (x17_4 + 1)), zq1, zq1, zq1, H', ⟨by have := HK1.out; have := HK2.out; have := HJ32.out; have := HK4.out; omega⟩, ⟨by (try simp only [hl8_4]); (with_reducible repeat (first | apply Kd.R_alloc | apply Kd.R_drewN | apply Kd.R_drew)); exact HO_8.out⟩, ⟨by (try simp only [hl8_4]); (with_reducible repeat (first | apply Kd.R_alloc | apply Kd.R_drewN | apply Kd.R_drew)); exact Kd.R_mono HO_9.out (fun _ hk => by (try simp only [own_len Ao18 (t367.length) (y370.length) co18] at hk); exact ⟨hk.1.1, ⟨hk.2, hk.1.2⟩⟩)⟩, ⟨by (try simp only [hl8_4]); (with_reducible repeat (first | apply Kd.R_alloc | apply Kd.R_drewN | apply Kd.R_drew)); exact Kd.R_mono HO_10.out (fun _ hk => by (try simp only [own_len Ao18 (t367.length) (y370.length) co18] at hk); exact ⟨hk.1.1, ⟨hk.2, hk.1.2⟩⟩)⟩, ⟨zH⟩⟩
              ·rw [if_neg c57] at H
               have c57b0 := decide_eq_false c57
               clear c57
               obtain ⟨y386, hy386⟩ : ∃ y_ : List Int, y_ = (x8_4.set ((ji54) : Int).toNat ((IntKind.u64.wrap ((IntKind.u64.wrap (rd x8_4 (ji54))) - (IntKind.u64.wrap ((Go.bits .and .u64 (IntKind.u64.wrap (x15_4 + (IntKind.u64.wrap (x13_32 * (IntKind.u64.wrap (rd y370 x17_4)))))) 4294967295) + x16_4)))) % 4294967296)) := ⟨_, rfl⟩
               (try rw [Option.bind_some] at H); (try rw [← hy386] at H)
               have Ny386 := Aside0.mk hy386
               clear hy386
               have H' := Aside0.mk H
               clear H
               obtain ⟨ad383, e383, hx383_0, p383, q383⟩ := atI (Kd.R_reads' HO_9.out).2.2 x17_4
               obtain rfl : ad378 = ad383 := (by injection e383)
               obtain ⟨ad384, e384, hx384_0, p384, q384⟩ := atI (Kd.R_reads' HO_8.out).2.2 (ji54)
               obtain rfl : ad376 = ad384 := (by injection e384)
               have p61 : 0 ≤ ((ji54) : Int) := of_decide_eq_true zq0
               have q61 : ((ji54) : Int) < ((x8_4.length : Int) : Int) := of_decide_eq_true zq0
               obtain ⟨go61, co61, eo61, gb61, gl61, cl61, HG61⟩ := Kd.R_form HO_8.out (by omega)
               (first | cases eo61 | (injection eo61 with ea_ en_ ec_; (first | subst ea_ | (injection ea_ with ea_; subst ea_)); subst ec_; clear en_))
               have GB61 := Aside0.mk gb61
               have GG61 := Aside0.mk HG61
               clear gb61 gl61 HG61
               (first | simp only [add_plain] at hx384_0 | skip)
               obtain ⟨hx61_0, hf61_0⟩ := Kd.R_celln 0 HO_8.out ((ji54) : Int) p61 q61
               (try simp only [Go.IntWalk.toNatUp] at hx61_0 hf61_0)
               replace p61 := eq_true p61
               replace q61 := eq_true q61
               have HP62 := Kd.R_putg HO_8.out ((ji54) : Int) ((IntKind.u64.wrap ((IntKind.u64.wrap (rd x8_4 (ji54))) - (IntKind.u64.wrap ((Go.bits .and .u64 (IntKind.u64.wrap (x15_4 + (IntKind.u64.wrap (x13_32 * (IntKind.u64.wrap (rd y370 x17_4)))))) 4294967295) + x16_4)))) % 4294967296)
               go_wp2_with (first | ((with_reducible refine gate_store (t := 86) (p := 169) rfl ?_); refine store_event (t := 86) (p := 169) (v := ?vo_w63) (w1 := (wr.setCell ⟨go61, ((ji54) : Int).toNat, none⟩ (.int .u32 ((IntKind.u64.wrap ((IntKind.u64.wrap (rd x8_4 (ji54))) - (IntKind.u64.wrap ((Go.bits .and .u64 (IntKind.u64.wrap (x15_4 + (IntKind.u64.wrap (x13_32 * (IntKind.u64.wrap (rd y370 x17_4)))))) 4294967295) + x16_4)))) % 4294967296)))) ?hg ?ho ?hn ?hr ?_; (case ho => rfl); (case hg => rfl); (case hn => rfl); (case hr => first | (go_simp; done) | (go_simp; rfl)); intro w63 hw; have hg : wr.grownBy w63 (some go61) := (by rw [hw]; exact HP62.2); have hp_ : Kd.R (Kd.int .u32) 86 w63 w.heap.size (fun k_ => (w.heap.size ≤ k_) ∧ some k_ ≠ (.slice (some ad378) y370.length co18 : Value).ownBlock ∧ some k_ ≠ (v374 : Value).ownBlock) (.slice (some ⟨go61, 0, none⟩) x8_4.length co35) y386 := (by rw [hw, Ny386.out]; exact HP62.1); clear HP62; have n0_ := Aside0.mk (hp_); have n1_ := Aside0.mk (Kd.R_after (v := (.slice (some ⟨go61, 0, none⟩) x8_4.length co35)) (v1 := (.slice (some ⟨go61, 0, none⟩) x8_4.length co35)) (ok := (fun k_ => (w.heap.size ≤ k_) ∧ some k_ ≠ (v374 : Value).ownBlock)) zq16 hg (.inl rfl)); have n2_ := Aside0.mk (Kd.R_after (v := (.slice (some ⟨go61, 0, none⟩) x8_4.length co35)) (v1 := (.slice (some ⟨go61, 0, none⟩) x8_4.length co35)) (ok := (fun k_ => (w.heap.size ≤ k_) ∧ some k_ ≠ (.slice (some ad378) y370.length co18 : Value).ownBlock)) zq17 hg (.inl rfl)); have n3_ := Aside0.mk ((by rw [hw]; exact below_set (HB.out) GB61.out : Below w.heap.size w w63)); revert n0_ n1_ n2_ n3_; clear HO_8 HO_9 HO_10 HB; intro HO_8 HO_9 HO_10 HB; clear hg hw hp_))
               (try simp only [← hl8_4])
               first | go_roundg k4 | (simp only [← add_plain _ ji23.toNat, ← add_plain _ ji26.toNat]; go_roundg k4)
               case measure => have := HK1.out; have := HK2.out; have := HJ32.out; have := HK4.out; omega
               case rel => exact ⟨(y386), ((IntKind.u64.wrap (x15_4 + (IntKind.u64.wrap (x13_32 * (IntKind.u64.wrap (rd y370 x17_4)))))) / 4294967296), (0), (wrap64 (x17_4 + 1)), zq1, zq1, zq1, H', ⟨by have := HK1.out; have := HK2.out; have := HJ32.out; have := HK4.out; omega⟩, ⟨by (try simp only [hl8_4]); (with_reducible repeat (first | apply Kd.R_alloc | apply Kd.R_drewN | apply Kd.R_drew)); exact HO_8.out⟩, ⟨by (try simp only [hl8_4]); (with_reducible repeat (first | apply Kd.R_alloc | apply Kd.R_drewN | apply Kd.R_drew)); exact Kd.R_mono HO_9.out (fun _ hk => by (try simp only [own_len Ao18 (t367.length) (y370.length) co18] at hk); exact ⟨hk.1.1, ⟨hk.2, hk.1.2⟩⟩)⟩, ⟨by (try simp only [hl8_4]); (with_reducible repeat (first | apply Kd.R_alloc | apply Kd.R_drewN | apply Kd.R_drew)); exact Kd.R_mono HO_10.out (fun _ hk => by (try simp only [own_len Ao18 (t367.length) (y370.length) co18] at hk); exact ⟨hk.1.1, ⟨hk.2, hk.1.2⟩⟩)⟩, ⟨zH⟩⟩
             ·rw [if_neg c51] at H
              have c51b0 := decide_eq_false c51
              (try (have c51x0 := c51b0; simp only [hl8_4] at c51x0))
              clear c51
              obtain ⟨ji64, hji64, hji64w⟩ := jI (x11_2 + (l1.length : Int))
              first | rw [hji64] at H | simp only [hji64] at H
              (try clear hji23w); (try clear hji23)
              replace H := iteD H
              obtain ⟨c65b0, H⟩ := H
              replace H := of_ite H
              obtain ⟨c66, H⟩ := H
              have c66b0 := decide_eq_true c66
              (try (have c66x0 := c66b0; simp only [hl8_4] at c66x0))
              clear c66
              obtain ⟨y388, hy388⟩ : ∃ y_ : List Int, y_ = (x8_4.set ((ji64) : Int).toNat ((IntKind.u64.wrap ((IntKind.u64.wrap (rd x8_4 (ji64))) - (IntKind.u64.wrap (x15_4 + x16_4)))) % 4294967296)) := ⟨_, rfl⟩
              (try rw [Option.bind_some] at H); (try rw [← hy388] at H)
              have Ny388 := Aside0.mk hy388
              clear hy388
              by_cases c68 : (IntKind.u64.wrap (rd x8_4 (ji64))) < (IntKind.u64.wrap (x15_4 + x16_4))
              ·rw [if_pos c68] at H
               have c68b0 := decide_eq_true c68
               clear c68
               have H' := Aside0.mk H
               clear H
               obtain ⟨ad387, e387, hx387_0, p387, q387⟩ := atI (Kd.R_reads' HO_8.out).2.2 (ji64)
               obtain rfl : ad376 = ad387 := (by injection e387)
               have p67 : 0 ≤ ((ji64) : Int) := of_decide_eq_true zq0
               have q67 : ((ji64) : Int) < ((x8_4.length : Int) : Int) := of_decide_eq_true zq0
               obtain ⟨go67, co67, eo67, gb67, gl67, cl67, HG67⟩ := Kd.R_form HO_8.out (by omega)
               (first | cases eo67 | (injection eo67 with ea_ en_ ec_; (first | subst ea_ | (injection ea_ with ea_; subst ea_)); subst ec_; clear en_))
               have GB67 := Aside0.mk gb67
               have GG67 := Aside0.mk HG67
               clear gb67 gl67 HG67
               (first | simp only [add_plain] at hx387_0 | skip)
               obtain ⟨hx67_0, hf67_0⟩ := Kd.R_celln 0 HO_8.out ((ji64) : Int) p67 q67
               (try simp only [Go.IntWalk.toNatUp] at hx67_0 hf67_0)
               replace p67 := eq_true p67
               replace q67 := eq_true q67
               have HP69 := Kd.R_putg HO_8.out ((ji64) : Int) ((IntKind.u64.wrap ((IntKind.u64.wrap (rd x8_4 (ji64))) - (IntKind.u64.wrap (x15_4 + x16_4)))) % 4294967296)
               go_wp2_with (first | ((with_reducible refine gate_store (t := 86) (p := 191) rfl ?_); refine store_event (t := 86) (p := 191) (v := ?vo_w70) (w1 := (wr.setCell ⟨go67, ((ji64) : Int).toNat, none⟩ (.int .u32 ((IntKind.u64.wrap ((IntKind.u64.wrap (rd x8_4 (ji64))) - (IntKind.u64.wrap (x15_4 + x16_4)))) % 4294967296)))) ?hg ?ho ?hn ?hr ?_; (case ho => rfl); (case hg => rfl); (case hn => rfl); (case hr => first | (go_simp; done) | (go_simp; rfl)); intro w70 hw; have hg : wr.grownBy w70 (some go67) := (by rw [hw]; exact HP69.2); have hp_ : Kd.R (Kd.int .u32) 86 w70 w.heap.size (fun k_ => (w.heap.size ≤ k_) ∧ some k_ ≠ (.slice (some ad378) y370.length co18 : Value).ownBlock ∧ some k_ ≠ (v374 : Value).ownBlock) (.slice (some ⟨go67, 0, none⟩) x8_4.length co35) y388 := (by rw [hw, Ny388.out]; exact HP69.1); clear HP69; have n0_ := Aside0.mk (hp_); have n1_ := Aside0.mk (Kd.R_after (v := (.slice (some ⟨go67, 0, none⟩) x8_4.length co35)) (v1 := (.slice (some ⟨go67, 0, none⟩) x8_4.length co35)) (ok := (fun k_ => (w.heap.size ≤ k_) ∧ some k_ ≠ (v374 : Value).ownBlock)) zq16 hg (.inl rfl)); have n2_ := Aside0.mk (Kd.R_after (v := (.slice (some ⟨go67, 0, none⟩) x8_4.length co35)) (v1 := (.slice (some ⟨go67, 0, none⟩) x8_4.length co35)) (ok := (fun k_ => (w.heap.size ≤ k_) ∧ some k_ ≠ (.slice (some ad378) y370.length co18 : Value).ownBlock)) zq17 hg (.inl rfl)); have n3_ := Aside0.mk ((by rw [hw]; exact below_set (HB.out) GB67.out : Below w.heap.size w w70)); revert n0_ n1_ n2_ n3_; clear HO_8 HO_9 HO_10 HB; intro HO_8 HO_9 HO_10 HB; clear hg hw hp_))
               go_loopg [15, 23] k4 (fun kq v15 v23 w' => ∃ (x8_5 : List Int) (x15_5 : Int) (x23_5 : Int), v15 = .int .u64 x15_5 ∧ v23 = .int .i64 x23_5 ∧ Aside0 (R1long.l4 kq (l1.length : Int) x7_1 x8_5 y370 x10_2 x11_2 (IntKind.u64.wrap (x13_32 - 1)) x15_5 x23_5 = some (r1, r2)) ∧ Aside0 (kq ≤ k4) ∧ Aside0 (Kd.R (Kd.int .u32) 86 w' w.heap.size (fun k_ => (w.heap.size ≤ k_) ∧ some k_ ≠ ((.slice (some ad378) y370.length co18) : Value).ownBlock ∧ some k_ ≠ (v374 : Value).ownBlock) (.slice (some ⟨go67, 0, none⟩) x8_4.length co35) x8_5) ∧ Aside0 (Kd.R (Kd.int .u32) 86 w' w.heap.size (fun k_ => (w.heap.size ≤ k_) ∧ some k_ ≠ ((.slice (some ⟨go67, 0, none⟩) x8_4.length co35) : Value).ownBlock ∧ some k_ ≠ (v374 : Value).ownBlock) (.slice (some ad378) y370.length co18) y370) ∧ Aside0 (Kd.R (Kd.int .u32) 86 w' w.heap.size (fun k_ => (w.heap.size ≤ k_) ∧ some k_ ≠ ((.slice (some ⟨go67, 0, none⟩) x8_4.length co35) : Value).ownBlock ∧ some k_ ≠ ((.slice (some ad378) y370.length co18) : Value).ownBlock) v374 x10_2) ∧ Aside0 (Below w.heap.size w w'))
               case atStart => exact ⟨(y388), (0), (0), zq1, zq1, H', ⟨Nat.le_refl _⟩, ⟨by (try simp only [hl8_4]); (with_reducible repeat (first | apply Kd.R_alloc | apply Kd.R_drewN | apply Kd.R_drew)); exact HO_8.out⟩, ⟨by (try simp only [hl8_4]); (with_reducible repeat (first | apply Kd.R_alloc | apply Kd.R_drewN | apply Kd.R_drew)); exact Kd.R_mono HO_9.out (fun _ hk => by (try simp only [own_len Ao18 (t367.length) (y370.length) co18] at hk); exact ⟨hk.1.1, ⟨hk.2, hk.1.2⟩⟩)⟩, ⟨by (try simp only [hl8_4]); (with_reducible repeat (first | apply Kd.R_alloc | apply Kd.R_drewN | apply Kd.R_drew)); exact Kd.R_mono HO_10.out (fun _ hk => by (try simp only [own_len Ao18 (t367.length) (y370.length) co18] at hk); exact ⟨hk.1.1, ⟨hk.2, hk.1.2⟩⟩)⟩, ⟨zH⟩⟩
               case round =>
                clear H'
                obtain ⟨x8_5, x15_5, x23_5, rfl, rfl, HA, HK5, HO_8, HO_9, HO_10, HB⟩ := hrel
                have hl8_5 := (Kd.R_reads' HO_8.out).1
                rw [hl8_5] at HO_8
                (try simp only [hl8_5])
                (try simp only [hl8_5] at HO_9)
                (try simp only [hl8_5] at HO_10)
                cases gk with
                | zero => exact absurd HA.out (by simp [R1long.l4])
                | succ k5 =>
                 have H := HA.out
                 clear HA
                 simp only [R1long.l4] at H
                 by_cases c71 : x23_5 < (l1.length : Int)
                 ·rw [if_pos c71] at H
                  have c71b0 := decide_eq_true c71
                  (try (have c71x0 := c71b0; simp only [hl8_4, hl8_5] at c71x0))
                  clear c71
                  obtain ⟨ji72, hji72, hji72w⟩ := jI (x11_2 + x23_5)
                  first | rw [hji72] at H | simp only [hji72] at H
                  replace H := iteD H
                  obtain ⟨c73b0, H⟩ := H
                  replace H := of_ite H
                  obtain ⟨c74, H⟩ := H
                  have c74b0 := decide_eq_true c74
                  (try (have c74x0 := c74b0; simp only [hl8_4, hl8_5] at c74x0))
                  clear c74
                  replace H := iteD H
                  obtain ⟨c75b0, H⟩ := H
                  replace H := of_ite H
                  obtain ⟨c76, H⟩ := H
                  have c76b0 := decide_eq_true c76
                  (try (have c76x0 := c76b0; simp only [hl8_4, hl8_5] at c76x0))
                  clear c76
                  obtain ⟨y391, hy391⟩ : ∃ y_ : List Int, y_ = (x8_5.set ((ji72) : Int).toNat ((IntKind.u64.wrap ((IntKind.u64.wrap (x15_5 + (IntKind.u64.wrap (rd x8_5 (ji72))))) + (IntKind.u64.wrap (rd y370 x23_5)))) % 4294967296)) := ⟨_, rfl⟩
                  (try rw [Option.bind_some] at H); (try rw [← hy391] at H)
                  have Ny391 := Aside0.mk hy391
                  clear hy391
                  have H' := Aside0.mk H
                  clear H
                  try go_wp2
                  have n0_ := Aside0.mk (Kd.R_drew HO_8.out)
                  have n1_ := Aside0.mk (Kd.R_drew HO_9.out)
                  have n2_ := Aside0.mk (Kd.R_drew HO_10.out)
                  have n3_ := Aside0.mk (below_drew1 HB.out)
                  revert n0_ n1_ n2_ n3_
                  clear HO_8 HO_9 HO_10 HB
                  intro HO_8 HO_9 HO_10 HB
                  obtain ⟨ad389, e389, hx389_0, p389, q389⟩ := atI (Kd.R_reads' HO_8.out).2.2 (ji72)
                  obtain rfl : (⟨go67, 0, none⟩ : Addr) = ad389 := (by injection e389)
                  (first | simp only [add_plain] at hx389_0 | simp only [add_at] at hx389_0 | simp only [Addr.add, Nat.zero_add] at hx389_0 | skip)
                  obtain ⟨ad390, e390, hx390_0, p390, q390⟩ := atI (Kd.R_reads' HO_9.out).2.2 x23_5
                  obtain rfl : ad378 = ad390 := (by injection e390)
                  refine start_ (n := 16) (S := fun w' => w'.cell? ⟨go67, ((ji72)).toNat, none⟩ = some (.int .u32 (rd x8_5 (ji72))) ∧ w'.cell? (ad378.add (x23_5).toNat) = some (.int .u32 (rd y370 x23_5))) (ds := []) #[false, false, false, false, false, false, false, false, false, false, false, false, false, false, false, false] (by kernel_rfl) rfl rfl ⟨hx389_0, hx390_0⟩ (fun hHeld => ?_); refine with_tabW R1long.tab42 R1long.bits42 (fun HT_ HW_ => ?_)
                  generalize wr.drew = w78 at HO_8 HO_9 HO_10 HB hx389_0 hx390_0 hHeld ⊢
                  refine pureA 0 200 (lB 16 1) rfl rfl ?_
                  refine pureA 1 201 (lB 16 3) rfl rfl ?_
                  refine pureA 2 202 (lB 16 7) rfl rfl ?_
                  refine pureA 3 203 (lB 16 15) rfl rfl ?_
                  refine pureA 4 204 (lB 16 31) rfl rfl ?_
                  refine pureA 5 205 (lB 16 63) rfl rfl ?_
                  refine pureA 9 209 (lB 16 575) rfl rfl ?_
                  refine pureA 10 210 (lB 16 1599) rfl rfl ?_
                  refine pureA 11 211 (lB 16 3647) rfl rfl ?_
                  refine takeA 6 206 (lB 16 3711) rfl rfl hHeld ?_
                  refine pureA 7 207 (lB 16 3839) rfl rfl ?_
                  refine pureA 8 208 (lB 16 4095) rfl rfl ?_
                  refine takeA 12 212 (lB 16 8191) rfl rfl hHeld ?_
                  refine pureA 13 213 (lB 16 16383) rfl rfl ?_
                  refine pureA 14 214 (lB 16 32767) rfl rfl ?_
                  refine pureA 15 15 (lB 16 65535) rfl rfl ?_
                  refine done_ (done_of HT_.out (by kernel_rfl)) ?_
                  have p77 : 0 ≤ ((ji72) : Int) := of_decide_eq_true zq0
                  have q77 : ((ji72) : Int) < ((x8_5.length : Int) : Int) := of_decide_eq_true zq0
                  obtain ⟨hx77_0, hf77_0⟩ := Kd.R_celln 0 HO_8.out ((ji72) : Int) p77 q77
                  (try simp only [Go.IntWalk.toNatUp] at hx77_0 hf77_0)
                  replace p77 := eq_true p77
                  replace q77 := eq_true q77
                  obtain ⟨hy79_, hz79_⟩ := Kd.R_celln 0 HO_8.out ((ji72) : Int) (of_decide_eq_true zq0) (of_decide_eq_true zq0)
                  (try simp only [Go.IntWalk.toNatUp] at hy79_ hz79_)
                  have HP79 := Kd.R_putg HO_8.out ((ji72) : Int) ((IntKind.u64.wrap ((IntKind.u64.wrap (x15_5 + (IntKind.u64.wrap (rd x8_5 (ji72))))) + (IntKind.u64.wrap (rd y370 x23_5)))) % 4294967296)
                  try go_wp2_with (first | ((with_reducible refine gate_store (t := 86) (p := 221) rfl ?_); refine store_event (t := 86) (p := 221) (v := ?vo_w80) (w1 := (w78.setCell ⟨go67, ((ji72) : Int).toNat, none⟩ (.int .u32 ((IntKind.u64.wrap ((IntKind.u64.wrap (x15_5 + (IntKind.u64.wrap (rd x8_5 (ji72))))) + (IntKind.u64.wrap (rd y370 x23_5)))) % 4294967296)))) ?hg ?ho ?hn ?hr ?_; (case ho => rfl); (case hg => rfl); (case hn => rfl); (case hr => first | (go_simp; done) | (go_simp; rfl)); intro w80 hw; have hg : w78.grownBy w80 (some go67) := (by rw [hw]; exact HP79.2); have hp_ : Kd.R (Kd.int .u32) 86 w80 w.heap.size (fun k_ => (w.heap.size ≤ k_) ∧ some k_ ≠ (.slice (some ad378) y370.length co18 : Value).ownBlock ∧ some k_ ≠ (v374 : Value).ownBlock) (.slice (some ⟨go67, 0, none⟩) x8_5.length co35) y391 := (by rw [hw, Ny391.out]; exact HP79.1); clear HP79; have n0_ := Aside0.mk (hp_); have n1_ := Aside0.mk (Kd.R_after (v := (.slice (some ⟨go67, 0, none⟩) x8_5.length co35)) (v1 := (.slice (some ⟨go67, 0, none⟩) x8_5.length co35)) (ok := (fun k_ => (w.heap.size ≤ k_) ∧ some k_ ≠ (v374 : Value).ownBlock)) zq16 hg (.inl rfl)); have n2_ := Aside0.mk (Kd.R_after (v := (.slice (some ⟨go67, 0, none⟩) x8_5.length co35)) (v1 := (.slice (some ⟨go67, 0, none⟩) x8_5.length co35)) (ok := (fun k_ => (w.heap.size ≤ k_) ∧ some k_ ≠ (.slice (some ad378) y370.length co18 : Value).ownBlock)) zq17 hg (.inl rfl)); have n3_ := Aside0.mk ((by rw [hw]; exact below_set (HB.out) GB67.out : Below w.heap.size w w80)); revert n0_ n1_ n2_ n3_; clear HO_8 HO_9 HO_10 HB; intro HO_8 HO_9 HO_10 HB; clear hg hw hp_))
                  (try simp only [← hl8_5])
                  first | go_roundg k5 | (simp only [← add_plain _ ji23.toNat, ← add_plain _ ji26.toNat]; go_roundg k5)
                  case measure => have := HK1.out; have := HK2.out; have := HJ32.out; have := HK4.out; have := HK5.out; omega
                  case rel => exact ⟨(y391), ((IntKind.u64.wrap ((IntKind.u64.wrap (x15_5 + (IntKind.u64.wrap (rd x8_5 (ji72))))) + (IntKind.u64.wrap (rd y370 x23_5)))) / 4294967296), (wrap64 (x23_5 + 1)), (by first | rfl | (simp; done) | (simp only [← hji72] <;> (first | rfl | simp)) | (simp [*]; done)), zq1, H', ⟨by have := HK1.out; have := HK2.out; have := HJ32.out; have := HK4.out; have := HK5.out; omega⟩, ⟨by (try simp only [hl8_4]); (try simp only [hl8_5]); (with_reducible repeat (first | apply Kd.R_alloc | apply Kd.R_drewN | apply Kd.R_drew)); exact HO_8.out⟩, ⟨by (try simp only [hl8_4]); (try simp only [hl8_5]); (with_reducible repeat (first | apply Kd.R_alloc | apply Kd.R_drewN | apply Kd.R_drew)); exact Kd.R_mono HO_9.out (fun _ hk => by (try simp only [own_len Ao18 (t367.length) (y370.length) co18] at hk); exact ⟨hk.1.1, ⟨hk.2, hk.1.2⟩⟩)⟩, ⟨by (try simp only [hl8_4]); (try simp only [hl8_5]); (with_reducible repeat (first | apply Kd.R_alloc | apply Kd.R_drewN | apply Kd.R_drew)); exact Kd.R_mono HO_10.out (fun _ hk => by (try simp only [own_len Ao18 (t367.length) (y370.length) co18] at hk); exact ⟨hk.1.1, ⟨hk.2, hk.1.2⟩⟩)⟩, ⟨zH⟩⟩
                 ·rw [if_neg c71] at H
                  have c71b0 := decide_eq_false c71
                  (try (have c71x0 := c71b0; simp only [hl8_4, hl8_5] at c71x0))
                  clear c71
                  obtain ⟨ji81, hji81, hji81w⟩ := jI (x11_2 + (l1.length : Int))
                  first | rw [hji81] at H | simp only [hji81] at H
                  (try clear hji23w); (try clear hji23); (try clear hji64w); (try clear hji64)
                  replace H := iteD H
                  obtain ⟨c82b0, H⟩ := H
                  replace H := of_ite H
                  obtain ⟨c83, H⟩ := H
                  have c83b0 := decide_eq_true c83
                  (try (have c83x0 := c83b0; simp only [hl8_4, hl8_5] at c83x0))
                  clear c83
                  obtain ⟨y393, hy393⟩ : ∃ y_ : List Int, y_ = (x8_5.set ((ji81) : Int).toNat (((rd x8_5 (ji81)) + ((x15_5) % 4294967296)) % 4294967296)) := ⟨_, rfl⟩
                  (try rw [Option.bind_some] at H); (try rw [← hy393] at H)
                  have Ny393 := Aside0.mk hy393
                  clear hy393
                  replace H := iteD H
                  obtain ⟨c85b0, H⟩ := H
                  replace H := of_ite H
                  obtain ⟨c86, H⟩ := H
                  have c86b0 := decide_eq_true c86
                  (try (have c86x0 := c86b0; simp only [hl8_4, hl8_5] at c86x0))
                  clear c86
                  obtain ⟨y394, hy394⟩ : ∃ y_ : List Int, y_ = (x10_2.set (x11_2 : Int).toNat (((IntKind.u64.wrap (x13_32 - 1))) % 4294967296)) := ⟨_, rfl⟩
                  (try rw [Option.bind_some] at H); (try rw [← hy394] at H)
                  have Ny394 := Aside0.mk hy394
                  clear hy394
                  have H' := Aside0.mk H
                  clear H
                  obtain ⟨ad392, e392, hx392_0, p392, q392⟩ := atI (Kd.R_reads' HO_8.out).2.2 (ji81)
                  obtain rfl : (⟨go67, 0, none⟩ : Addr) = ad392 := (by injection e392)
                  (first | simp only [add_plain] at hx392_0 | simp only [add_at] at hx392_0 | simp only [Addr.add, Nat.zero_add] at hx392_0 | skip)
                  have p84 : 0 ≤ ((ji81) : Int) := of_decide_eq_true zq0
                  have q84 : ((ji81) : Int) < ((x8_5.length : Int) : Int) := of_decide_eq_true zq0
                  obtain ⟨hx84_0, hf84_0⟩ := Kd.R_celln 0 HO_8.out ((ji81) : Int) p84 q84
                  (try simp only [Go.IntWalk.toNatUp] at hx84_0 hf84_0)
                  replace p84 := eq_true p84
                  replace q84 := eq_true q84
                  have HP88 := Kd.R_putg HO_8.out ((ji81) : Int) (((rd x8_5 (ji81)) + ((x15_5) % 4294967296)) % 4294967296)
                  go_wp2_with (first | ((with_reducible refine gate_store (t := 86) (p := 237) rfl ?_); refine store_event (t := 86) (p := 237) (v := ?vo_w89) (w1 := (wr.setCell ⟨go67, ((ji81) : Int).toNat, none⟩ (.int .u32 (((rd x8_5 (ji81)) + ((x15_5) % 4294967296)) % 4294967296)))) ?hg ?ho ?hn ?hr ?_; (case ho => rfl); (case hg => rfl); (case hn => rfl); (case hr => first | (go_simp; done) | (go_simp; rfl)); intro w89 hw; have hg : wr.grownBy w89 (some go67) := (by rw [hw]; exact HP88.2); have hp_ : Kd.R (Kd.int .u32) 86 w89 w.heap.size (fun k_ => (w.heap.size ≤ k_) ∧ some k_ ≠ (.slice (some ad378) y370.length co18 : Value).ownBlock ∧ some k_ ≠ (v374 : Value).ownBlock) (.slice (some ⟨go67, 0, none⟩) x8_5.length co35) y393 := (by rw [hw, Ny393.out]; exact HP88.1); clear HP88; have n0_ := Aside0.mk (hp_); have n1_ := Aside0.mk (Kd.R_after (v := (.slice (some ⟨go67, 0, none⟩) x8_5.length co35)) (v1 := (.slice (some ⟨go67, 0, none⟩) x8_5.length co35)) (ok := (fun k_ => (w.heap.size ≤ k_) ∧ some k_ ≠ (v374 : Value).ownBlock)) zq16 hg (.inl rfl)); have n2_ := Aside0.mk (Kd.R_after (v := (.slice (some ⟨go67, 0, none⟩) x8_5.length co35)) (v1 := (.slice (some ⟨go67, 0, none⟩) x8_5.length co35)) (ok := (fun k_ => (w.heap.size ≤ k_) ∧ some k_ ≠ (.slice (some ad378) y370.length co18 : Value).ownBlock)) zq17 hg (.inl rfl)); have n3_ := Aside0.mk ((by rw [hw]; exact below_set (HB.out) GB67.out : Below w.heap.size w w89)); revert n0_ n1_ n2_ n3_; clear HO_8 HO_9 HO_10 HB; intro HO_8 HO_9 HO_10 HB; clear hg hw hp_; have p87 : 0 ≤ (x11_2 : Int) := of_decide_eq_true zq0; have q87 : (x11_2 : Int) < ((x10_2.length : Int) : Int) := of_decide_eq_true zq0; obtain ⟨go87, co87, eo87, gb87, gl87, cl87, HG87⟩ := Kd.R_form HO_10.out (by omega); (first | cases eo87 | (injection eo87 with ea_ en_ ec_; (first | subst ea_ | (injection ea_ with ea_; subst ea_)); subst ec_; clear en_)); have GB87 := Aside0.mk gb87; have GG87 := Aside0.mk HG87; clear gb87 gl87 HG87; obtain ⟨hx87_0, hf87_0⟩ := Kd.R_celln 0 HO_10.out (x11_2 : Int) p87 q87; replace p87 := eq_true p87; replace q87 := eq_true q87; have n_ := Aside0.mk (Kd.R_mono (ok' := (fun k_ => (w.heap.size ≤ k_) ∧ some k_ ≠ (.slice (some ⟨go67, 0, none⟩) x8_5.length co35 : Value).ownBlock ∧ some k_ ≠ (.slice (some ad378) y370.length co18 : Value).ownBlock)) HO_10.out (fun k_ hk => ⟨hk.1.1, ⟨hk.2, hk.1.2⟩⟩)); clear HO_10; have HO_10 := n_; clear n_; obtain ⟨hy90_, hz90_⟩ := Kd.R_celln 0 HO_10.out (x11_2 : Int) (of_decide_eq_true zq0) (of_decide_eq_true zq0); have HP90 := Kd.R_putg HO_10.out (x11_2 : Int) (((IntKind.u64.wrap (x13_32 - 1))) % 4294967296)) | ((with_reducible refine gate_store (t := 86) (p := 242) rfl ?_); refine store_event (t := 86) (p := 242) (v := ?vo_w91) (w1 := (w89.setCell ⟨go87, (x11_2 : Int).toNat, none⟩ (.int .u32 (((IntKind.u64.wrap (x13_32 - 1))) % 4294967296)))) ?hg ?ho ?hn ?hr ?_; (case ho => rfl); (case hg => rfl); (case hn => rfl); (case hr => first | (go_simp; done) | (go_simp; rfl)); intro w91 hw; have hg : w89.grownBy w91 (some go87) := (by rw [hw]; exact HP90.2); have hp_ : Kd.R (Kd.int .u32) 86 w91 w.heap.size (fun k_ => (w.heap.size ≤ k_) ∧ some k_ ≠ (.slice (some ⟨go67, 0, none⟩) x8_5.length co35 : Value).ownBlock ∧ some k_ ≠ (.slice (some ad378) y370.length co18 : Value).ownBlock) (.slice (some ⟨go87, 0, none⟩) x10_2.length co87) y394 := (by rw [hw, Ny394.out]; exact HP90.1); clear HP90; have n0_ := Aside0.mk (Kd.R_after (v := (.slice (some ⟨go87, 0, none⟩) x10_2.length co87)) (v1 := (.slice (some ⟨go87, 0, none⟩) x10_2.length co87)) (ok := (fun k_ => (w.heap.size ≤ k_) ∧ some k_ ≠ (.slice (some ad378) y370.length co18 : Value).ownBlock)) zq48 hg (.inl rfl)); have n1_ := Aside0.mk (Kd.R_after (v := (.slice (some ⟨go87, 0, none⟩) x10_2.length co87)) (v1 := (.slice (some ⟨go87, 0, none⟩) x10_2.length co87)) (ok := (fun k_ => (w.heap.size ≤ k_) ∧ some k_ ≠ (.slice (some ⟨go67, 0, none⟩) x8_5.length co35 : Value).ownBlock)) zq49 hg (.inl rfl)); have n2_ := Aside0.mk (hp_); have n3_ := Aside0.mk ((by rw [hw]; exact below_set (HB.out) GB87.out : Below w.heap.size w w91)); revert n0_ n1_ n2_ n3_; clear HO_8 HO_9 HO_10 HB; intro HO_8 HO_9 HO_10 HB; clear hg hw hp_))
                  (try simp only [← hl8_4, ← hl8_5])
                  first | go_roundg k5 | (simp only [← add_plain _ ji23.toNat, ← add_plain _ ji26.toNat]; go_roundg k5)
                  case measure => have := HK1.out; have := HK2.out; have := HJ32.out; have := HK4.out; have := HK5.out; omega
                  case rel => exact ⟨(y393), (y394), (wrap64 (x11_2 - 1)), zq1, H', ⟨by have := HK1.out; have := HK2.out; have := HJ32.out; have := HK4.out; have := HK5.out; omega⟩, ⟨by (try simp only [hl8_4]); (try simp only [hl8_5]); (with_reducible repeat (first | apply Kd.R_alloc | apply Kd.R_drewN | apply Kd.R_drew)); exact Kd.R_mono HO_8.out (fun _ hk => by (try simp only [own_len Ao18 (t367.length) (y370.length) co18] at hk); exact ⟨hk.1.1, ⟨hk.1.2, hk.2⟩⟩)⟩, ⟨by (try simp only [hl8_4]); (try simp only [hl8_5]); (with_reducible repeat (first | apply Kd.R_alloc | apply Kd.R_drewN | apply Kd.R_drew)); exact Kd.R_mono HO_9.out (fun _ hk => by (try simp only [own_len Ao18 (t367.length) (y370.length) co18] at hk); exact ⟨hk.1.1, ⟨hk.1.2, hk.2⟩⟩)⟩, ⟨by (try simp only [hl8_4]); (try simp only [hl8_5]); (with_reducible repeat (first | apply Kd.R_alloc | apply Kd.R_drewN | apply Kd.R_drew)); exact HO_10.out⟩, ⟨zH⟩⟩
              ·rw [if_neg c68] at H
               have c68b0 := decide_eq_false c68
               clear c68
               replace H := iteD H
               obtain ⟨c92b0, H⟩ := H
               replace H := of_ite H
               obtain ⟨c93, H⟩ := H
               have c93b0 := decide_eq_true c93
               (try (have c93x0 := c93b0; simp only [hl8_4] at c93x0))
               clear c93
               obtain ⟨y395, hy395⟩ : ∃ y_ : List Int, y_ = (x10_2.set (x11_2 : Int).toNat ((x13_32) % 4294967296)) := ⟨_, rfl⟩
               (try rw [Option.bind_some] at H); (try rw [← hy395] at H)
               have Ny395 := Aside0.mk hy395
               clear hy395
               have H' := Aside0.mk H
               clear H
               obtain ⟨ad387, e387, hx387_0, p387, q387⟩ := atI (Kd.R_reads' HO_8.out).2.2 (ji64)
               obtain rfl : ad376 = ad387 := (by injection e387)
               have p67 : 0 ≤ ((ji64) : Int) := of_decide_eq_true zq0
               have q67 : ((ji64) : Int) < ((x8_4.length : Int) : Int) := of_decide_eq_true zq0
               obtain ⟨go67, co67, eo67, gb67, gl67, cl67, HG67⟩ := Kd.R_form HO_8.out (by omega)
               (first | cases eo67 | (injection eo67 with ea_ en_ ec_; (first | subst ea_ | (injection ea_ with ea_; subst ea_)); subst ec_; clear en_))
               have GB67 := Aside0.mk gb67
               have GG67 := Aside0.mk HG67
               clear gb67 gl67 HG67
               (first | simp only [add_plain] at hx387_0 | skip)
               obtain ⟨hx67_0, hf67_0⟩ := Kd.R_celln 0 HO_8.out ((ji64) : Int) p67 q67
               (try simp only [Go.IntWalk.toNatUp] at hx67_0 hf67_0)
               replace p67 := eq_true p67
               replace q67 := eq_true q67
               have HP95 := Kd.R_putg HO_8.out ((ji64) : Int) ((IntKind.u64.wrap ((IntKind.u64.wrap (rd x8_4 (ji64))) - (IntKind.u64.wrap (x15_4 + x16_4)))) % 4294967296)
               go_wp2_with (first | ((with_reducible refine gate_store (t := 86) (p := 191) rfl ?_); refine store_event (t := 86) (p := 191) (v := ?vo_w96) (w1 := (wr.setCell ⟨go67, ((ji64) : Int).toNat, none⟩ (.int .u32 ((IntKind.u64.wrap ((IntKind.u64.wrap (rd x8_4 (ji64))) - (IntKind.u64.wrap (x15_4 + x16_4)))) % 4294967296)))) ?hg ?ho ?hn ?hr ?_; (case ho => rfl); (case hg => rfl); (case hn => rfl); (case hr => first | (go_simp; done) | (go_simp; rfl)); intro w96 hw; have hg : wr.grownBy w96 (some go67) := (by rw [hw]; exact HP95.2); have hp_ : Kd.R (Kd.int .u32) 86 w96 w.heap.size (fun k_ => (w.heap.size ≤ k_) ∧ some k_ ≠ (.slice (some ad378) y370.length co18 : Value).ownBlock ∧ some k_ ≠ (v374 : Value).ownBlock) (.slice (some ⟨go67, 0, none⟩) x8_4.length co35) y388 := (by rw [hw, Ny388.out]; exact HP95.1); clear HP95; have n0_ := Aside0.mk (hp_); have n1_ := Aside0.mk (Kd.R_after (v := (.slice (some ⟨go67, 0, none⟩) x8_4.length co35)) (v1 := (.slice (some ⟨go67, 0, none⟩) x8_4.length co35)) (ok := (fun k_ => (w.heap.size ≤ k_) ∧ some k_ ≠ (v374 : Value).ownBlock)) zq16 hg (.inl rfl)); have n2_ := Aside0.mk (Kd.R_after (v := (.slice (some ⟨go67, 0, none⟩) x8_4.length co35)) (v1 := (.slice (some ⟨go67, 0, none⟩) x8_4.length co35)) (ok := (fun k_ => (w.heap.size ≤ k_) ∧ some k_ ≠ (.slice (some ad378) y370.length co18 : Value).ownBlock)) zq17 hg (.inl rfl)); have n3_ := Aside0.mk ((by rw [hw]; exact below_set (HB.out) GB67.out : Below w.heap.size w w96)); revert n0_ n1_ n2_ n3_; clear HO_8 HO_9 HO_10 HB; intro HO_8 HO_9 HO_10 HB; clear hg hw hp_; have p94 : 0 ≤ (x11_2 : Int) := of_decide_eq_true zq0; have q94 : (x11_2 : Int) < ((x10_2.length : Int) : Int) := of_decide_eq_true zq0; obtain ⟨go94, co94, eo94, gb94, gl94, cl94, HG94⟩ := Kd.R_form HO_10.out (by omega); (first | cases eo94 | (injection eo94 with ea_ en_ ec_; (first | subst ea_ | (injection ea_ with ea_; subst ea_)); subst ec_; clear en_)); have GB94 := Aside0.mk gb94; have GG94 := Aside0.mk HG94; clear gb94 gl94 HG94; obtain ⟨hx94_0, hf94_0⟩ := Kd.R_celln 0 HO_10.out (x11_2 : Int) p94 q94; replace p94 := eq_true p94; replace q94 := eq_true q94; have n_ := Aside0.mk (Kd.R_mono (ok' := (fun k_ => (w.heap.size ≤ k_) ∧ some k_ ≠ (.slice (some ⟨go67, 0, none⟩) x8_4.length co35 : Value).ownBlock ∧ some k_ ≠ (.slice (some ad378) y370.length co18 : Value).ownBlock)) HO_10.out (fun k_ hk => ⟨hk.1.1, ⟨hk.2, hk.1.2⟩⟩)); clear HO_10; have HO_10 := n_; clear n_; obtain ⟨hy97_, hz97_⟩ := Kd.R_celln 0 HO_10.out (x11_2 : Int) (of_decide_eq_true zq0) (of_decide_eq_true zq0); have HP97 := Kd.R_putg HO_10.out (x11_2 : Int) ((x13_32) % 4294967296)) | ((with_reducible refine gate_store (t := 86) (p := 242) rfl ?_); refine store_event (t := 86) (p := 242) (v := ?vo_w98) (w1 := (w96.setCell ⟨go94, (x11_2 : Int).toNat, none⟩ (.int .u32 ((x13_32) % 4294967296)))) ?hg ?ho ?hn ?hr ?_; (case ho => rfl); (case hg => rfl); (case hn => rfl); (case hr => first | (go_simp; done) | (go_simp; rfl)); intro w98 hw; have hg : w96.grownBy w98 (some go94) := (by rw [hw]; exact HP97.2); have hp_ : Kd.R (Kd.int .u32) 86 w98 w.heap.size (fun k_ => (w.heap.size ≤ k_) ∧ some k_ ≠ (.slice (some ⟨go67, 0, none⟩) x8_4.length co35 : Value).ownBlock ∧ some k_ ≠ (.slice (some ad378) y370.length co18 : Value).ownBlock) (.slice (some ⟨go94, 0, none⟩) x10_2.length co94) y395 := (by rw [hw, Ny395.out]; exact HP97.1); clear HP97; have n0_ := Aside0.mk (Kd.R_after (v := (.slice (some ⟨go94, 0, none⟩) x10_2.length co94)) (v1 := (.slice (some ⟨go94, 0, none⟩) x10_2.length co94)) (ok := (fun k_ => (w.heap.size ≤ k_) ∧ some k_ ≠ (.slice (some ad378) y370.length co18 : Value).ownBlock)) zq48 hg (.inl rfl)); have n1_ := Aside0.mk (Kd.R_after (v := (.slice (some ⟨go94, 0, none⟩) x10_2.length co94)) (v1 := (.slice (some ⟨go94, 0, none⟩) x10_2.length co94)) (ok := (fun k_ => (w.heap.size ≤ k_) ∧ some k_ ≠ (.slice (some ⟨go67, 0, none⟩) x8_4.length co35 : Value).ownBlock)) zq49 hg (.inl rfl)); have n2_ := Aside0.mk (hp_); have n3_ := Aside0.mk ((by rw [hw]; exact below_set (HB.out) GB94.out : Below w.heap.size w w98)); revert n0_ n1_ n2_ n3_; clear HO_8 HO_9 HO_10 HB; intro HO_8 HO_9 HO_10 HB; clear hg hw hp_))
               (try simp only [← hl8_4])
               first | go_roundg k4 | (simp only [← add_plain _ ji23.toNat, ← add_plain _ ji26.toNat]; go_roundg k4)
               case measure => have := HK1.out; have := HK2.out; have := HJ32.out; have := HK4.out; omega
               case rel => exact ⟨(y388), (y395), (wrap64 (x11_2 - 1)), zq1, H', ⟨by have := HK1.out; have := HK2.out; have := HJ32.out; have := HK4.out; omega⟩, ⟨by (try simp only [hl8_4]); (with_reducible repeat (first | apply Kd.R_alloc | apply Kd.R_drewN | apply Kd.R_drew)); exact Kd.R_mono HO_8.out (fun _ hk => by (try simp only [own_len Ao18 (t367.length) (y370.length) co18] at hk); exact ⟨hk.1.1, ⟨hk.1.2, hk.2⟩⟩)⟩, ⟨by (try simp only [hl8_4]); (with_reducible repeat (first | apply Kd.R_alloc | apply Kd.R_drewN | apply Kd.R_drew)); exact Kd.R_mono HO_9.out (fun _ hk => by (try simp only [own_len Ao18 (t367.length) (y370.length) co18] at hk); exact ⟨hk.1.1, ⟨hk.1.2, hk.2⟩⟩)⟩, ⟨by (try simp only [hl8_4]); (with_reducible repeat (first | apply Kd.R_alloc | apply Kd.R_drewN | apply Kd.R_drew)); exact HO_10.out⟩, ⟨zH⟩⟩
      ·rw [if_neg c22] at H
       have c22b0 := decide_eq_false c22
       clear c22
       replace H := iteE H
       obtain ⟨c99b0, c99b1, H⟩ := H
       replace H := iteE H
       obtain ⟨c100b0, c100b1, H⟩ := H
       obtain ⟨y396, hy396⟩ : ∃ y_ : List Int, y_ = (List.replicate ((l1.length : Int) : Int).toNat 0) := ⟨_, rfl⟩
       (try rw [Option.bind_some] at H); (try rw [← hy396] at H)
       have Ny396 := Aside0.mk hy396
       clear hy396
       have H' := Aside0.mk H
       clear H
       go_wp2_with (first | ((with_reducible refine gate_dst (N := 244) rfl ?_); refine Kd.R_make (Kd.int .u32) _ 86 rfl (N := 244) rfl 74 _ _ rfl (l1.length : Int) rfl rfl Tryd.underlying74 (.int .u32 0) 4 info86 rfl (by decide) (by omega) 0 (ok := fun _ => True) (okp := fun _ => True) rfl (fun _ hk => hk) trivial (of_decide_eq_true zq0) (Nat.le_trans (Nat.mul_le_mul_right _ (of_decide_eq_true zq0 : (l1.length : Int).toNat ≤ 70368744177664)) (by omega)) (Below.refl _ _) (Nat.le_refl _) ?_; intro v397 w101 ho102 hb hg_ hnew_; clear hg_ hnew_; (first | rw [← Ny396.out] at ho102 | (simp only [Int.reduceToNat] at ho102; rw [← Ny396.out] at ho102)); have n0_ := Aside0.mk (Kd.R_elder' zq18 (Kd.R_base ho102) hb); have n1_ := Aside0.mk (Kd.R_elder' (by (with_reducible repeat (first | apply Kd.R_alloc | apply Kd.R_drewN | apply Kd.R_drew)); exact HO_9.out) (Kd.R_base ho102) hb); have n2_ := Aside0.mk (Kd.R_elder' zq7 (Kd.R_base ho102) hb); have n3_ := Aside0.mk (Kd.R_lower (Kd.R_new' (Kd.R_new' (Kd.R_new' (Kd.R_newM (M := fun k_ => (w.heap.size ≤ k_)) ho102 (below_size zH) (fun k_ h_ => h_)) (Kd.R_lt zq18)) (Kd.R_lt (by (with_reducible repeat (first | apply Kd.R_alloc | apply Kd.R_drewN | apply Kd.R_drew)); exact HO_9.out))) (Kd.R_lt zq7)) (below_size zH)); have n4_ := sB hb; revert n0_ n1_ n2_ n3_ n4_; clear HO_8 HO_9 HO_10 HB; intro HO_8 HO_9 HO_10 HO398 HB; clear hb ho102))
       as_aux_lemma =>
        go_loopg [25] k2 (fun kq v25 w' => ∃ (x24_3 : List Int) (x25_3 : Int), v25 = .int .i64 x25_3 ∧ Aside0 (R1long.l5 kq (l1.length : Int) x7_1 x8_2 x10_2 x24_3 x25_3 = some (r1, r2)) ∧ Aside0 (kq ≤ k2) ∧ Aside0 (Kd.R (Kd.int .u32) 86 w' w.heap.size (fun k_ => (w.heap.size ≤ k_) ∧ some k_ ≠ (v374 : Value).ownBlock ∧ some k_ ≠ (v397 : Value).ownBlock) v365 x8_2) ∧ Aside0 (Kd.R (Kd.int .u32) 86 w' w.heap.size (fun k_ => (w.heap.size ≤ k_) ∧ some k_ ≠ (v365 : Value).ownBlock ∧ some k_ ≠ (v397 : Value).ownBlock) v374 x10_2) ∧ Aside0 (Kd.R (Kd.int .u32) 86 w' w.heap.size (fun k_ => (w.heap.size ≤ k_) ∧ some k_ ≠ (v365 : Value).ownBlock ∧ some k_ ≠ (v374 : Value).ownBlock) v397 x24_3) ∧ Aside0 (Below w.heap.size w w'))
        case atStart => exact ⟨(y396), (0), zq1, H', ⟨Nat.le_refl _⟩, ⟨by (with_reducible repeat (first | apply Kd.R_alloc | apply Kd.R_drewN | apply Kd.R_drew)); exact Kd.R_mono HO_8.out (fun _ hk => by (try simp only [own_len Ao18 (t367.length) (y370.length) co18] at hk); exact ⟨hk.1.1, ⟨hk.1.2.2, hk.2⟩⟩)⟩, ⟨by (with_reducible repeat (first | apply Kd.R_alloc | apply Kd.R_drewN | apply Kd.R_drew)); exact Kd.R_mono HO_10.out (fun _ hk => by (try simp only [own_len Ao18 (t367.length) (y370.length) co18] at hk); exact ⟨hk.1.1, ⟨hk.1.2.1, hk.2⟩⟩)⟩, ⟨by (with_reducible repeat (first | apply Kd.R_alloc | apply Kd.R_drewN | apply Kd.R_drew)); exact Kd.R_mono HO398.out (fun _ hk => by (try simp only [own_len Ao18 (t367.length) (y370.length) co18] at hk); exact ⟨hk.1.1.1.1, ⟨hk.1.1.2, hk.2⟩⟩)⟩, ⟨zH⟩⟩
        case round =>
         clear H'
         obtain ⟨x24_3, x25_3, rfl, HA, HK3, HO_8, HO_10, HO_24, HB⟩ := hrel
         cases gk with
         | zero => exact absurd HA.out (by simp [R1long.l5])
         | succ k3 =>
          have H := HA.out
          clear HA
          simp only [R1long.l5] at H
          by_cases c103 : x25_3 < (l1.length : Int)
          ·rw [if_pos c103] at H
           have c103b0 := decide_eq_true c103
           clear c103
           obtain ⟨ji104, hji104, hji104w⟩ := jI (x25_3 + 1)
           first | rw [hji104] at H | simp only [hji104] at H
           replace H := iteD H
           obtain ⟨c105b0, H⟩ := H
           replace H := iteD H
           obtain ⟨c106b0, H⟩ := H
           replace H := iteD H
           obtain ⟨c107b0, H⟩ := H
           replace H := iteD H
           obtain ⟨c108b0, H⟩ := H
           replace H := iteE H
           obtain ⟨c109b0, c109b1, H⟩ := H
           replace H := iteE H
           obtain ⟨c110b0, c110b1, H⟩ := H
           replace H := iteD H
           obtain ⟨c111b0, H⟩ := H
           obtain ⟨y401, hy401⟩ : ∃ y_ : List Int, y_ = (x24_3.set (x25_3 : Int).toNat (((Go.bits .or .u64 (IntKind.u64.wrap ((IntKind.u64.wrap (rd x8_2 (ji104))) * 4294967296)) (IntKind.u64.wrap (rd x8_2 x25_3))) / 2 ^ x7_1.toNat) % 4294967296)) := ⟨_, rfl⟩
           (try rw [Option.bind_some] at H); (try rw [← hy401] at H)
           have Ny401 := Aside0.mk hy401
           clear hy401
           have H' := Aside0.mk H
           clear H
           try go_wp2
           have n0_ := Aside0.mk (Kd.R_drew HO_8.out)
           have n1_ := Aside0.mk (Kd.R_drew HO_10.out)
           have n2_ := Aside0.mk (Kd.R_drew HO_24.out)
           have n3_ := Aside0.mk (below_drew1 HB.out)
           revert n0_ n1_ n2_ n3_
           clear HO_8 HO_10 HO_24 HB
           intro HO_8 HO_10 HO_24 HB
           obtain ⟨Ao114, co114, eo114⟩ := Kd.R_slice HO_8.out
           (first | subst eo114 | (injection eo114 with f1_ f2_ f3_; have f4_ := f1_.symm; have f5_ := f3_.symm; clear f1_ f2_ f3_; subst f4_; subst f5_))
           obtain ⟨ad399, e399, hx399_0, p399, q399⟩ := atI (Kd.R_reads' HO_8.out).2.2 (ji104)
           cases e399
           obtain ⟨ad400, e400, hx400_0, p400, q400⟩ := atI (Kd.R_reads' HO_8.out).2.2 x25_3
           obtain rfl : ad399 = ad400 := (by injection e400)
           have p112 : 0 ≤ (x25_3 : Int) := of_decide_eq_true zq0
           have q112 : (x25_3 : Int) < ((x24_3.length : Int) : Int) := of_decide_eq_true zq0
           obtain ⟨go112, co112, eo112, gb112, gl112, cl112, HG112⟩ := Kd.R_form HO_24.out (by omega)
           (first | cases eo112 | (injection eo112 with ea_ en_ ec_; (first | subst ea_ | (injection ea_ with ea_; subst ea_)); subst ec_; clear en_))
           have GB112 := Aside0.mk gb112
           have GG112 := Aside0.mk HG112
           clear gb112 gl112 HG112
           obtain ⟨hx112_0, hf112_0⟩ := Kd.R_celln 0 HO_24.out (x25_3 : Int) p112 q112
           (try simp only [Go.IntWalk.toNatUp] at hx112_0 hf112_0)
           replace p112 := eq_true p112
           replace q112 := eq_true q112
           have HP115 := Kd.R_putn HO_24.out (x25_3 : Int) (((Go.bits .or .u64 (IntKind.u64.wrap ((IntKind.u64.wrap (rd x8_2 (ji104))) * 4294967296)) (IntKind.u64.wrap (rd x8_2 x25_3))) / 2 ^ x7_1.toNat) % 4294967296)
           rw [← Ny401.out] at HP115
           have HQ115 := Aside0.mk HP115
           clear HP115
           refine start_ (n := 20) (S := fun w' => w'.cell? (ad399.add ((ji104)).toNat) = some (.int .u32 (rd x8_2 (ji104))) ∧ w'.cell? (ad399.add (x25_3).toNat) = some (.int .u32 (rd x8_2 x25_3))) (ds := [19]) #[false, false, false, false, false, false, false, false, false, false, false, false, false, false, false, false, false, false, false, false] (by kernel_rfl) rfl rfl ⟨hx399_0, hx400_0⟩ (fun hHeld => ?_); refine with_tabW R1long.tab51 R1long.bits51 (fun HT_ HW_ => ?_)
           generalize wr.drew = w113 at HO_8 HO_10 HO_24 HB GG112 HQ115 hf112_0 hx112_0 hx399_0 hx400_0 hHeld ⊢
           refine pureA 0 250 (lB 20 1) rfl rfl ?_
           refine pureA 1 251 (lB 20 3) rfl rfl ?_
           refine pureA 2 252 (lB 20 7) rfl rfl ?_
           refine pureA 3 253 (lB 20 15) rfl rfl ?_
           refine pureA 4 254 (lB 20 31) rfl rfl ?_
           refine pureA 5 255 (lB 20 63) rfl rfl ?_
           refine pureA 9 259 (lB 20 575) rfl rfl ?_
           refine pureA 10 260 (lB 20 1599) rfl rfl ?_
           refine pureA 11 261 (lB 20 3647) rfl rfl ?_
           refine pureA 15 265 (lB 20 36415) rfl rfl ?_
           refine takeA 6 256 (lB 20 36479) rfl rfl hHeld ?_
           refine pureA 7 257 (lB 20 36607) rfl rfl ?_
           refine pureA 8 258 (lB 20 36863) rfl rfl ?_
           refine takeA 12 262 (lB 20 40959) rfl rfl hHeld ?_
           refine pureA 13 263 (lB 20 49151) rfl rfl ?_
           refine pureA 14 264 (lB 20 65535) rfl rfl ?_
           refine pureA 16 266 (lB 20 131071) rfl rfl ?_
           refine pureA 17 267 (lB 20 262143) rfl rfl ?_
           refine pureA 18 268 (lB 20 524287) rfl rfl ?_
           refine last_ (i := 19) (N := none) (lB 20 1048575) rfl rfl (one_of HT_.out (by kernel_rfl)) (by decide) (fun K hK => ?_)
           refine skip_ (w1 := ?_) (by rfl) rfl ?_ ?_
           rotate_left
           ·go_simp
            rfl
           refine hK.out _ _ ?_
           clear hK K
           refine done_ (done_of HT_.out (by kernel_rfl)) ?_
           try go_wp2
           first | go_roundg k3 | (simp only [← add_plain _ ji23.toNat, ← add_plain _ ji26.toNat]; go_roundg k3)
           case measure => have := HK1.out; have := HK2.out; have := HK3.out; omega
           case rel => exact ⟨(y401), (ji104), (by first | rfl | (simp; done) | (simp only [← hji104] <;> (first | rfl | simp)) | (simp [*]; done)), H', ⟨by have := HK1.out; have := HK2.out; have := HK3.out; omega⟩, ⟨by (with_reducible repeat (first | apply Kd.R_alloc | apply Kd.R_drewN | apply Kd.R_drew)); exact Kd.R_mono (Kd.R_far (p := ⟨go112, (x25_3 : Int).toNat, none⟩) (Kd.R_mono HO_8.out (fun k_ hk => (⟨hk, fun e_ => hk.2.2 (by rw [e_]; rfl)⟩ : _ ∧ k_ ≠ go112))) (fun _ hk => hk.2) (.int .u32 (((Go.bits .or .u64 (IntKind.u64.wrap ((IntKind.u64.wrap (rd x8_2 (ji104))) * 4294967296)) (IntKind.u64.wrap (rd x8_2 x25_3))) / 2 ^ x7_1.toNat) % 4294967296))) (fun _ hk => ⟨hk.1.1, ⟨hk.1.2.1, hk.1.2.2⟩⟩)⟩, ⟨by (with_reducible repeat (first | apply Kd.R_alloc | apply Kd.R_drewN | apply Kd.R_drew)); exact Kd.R_mono (Kd.R_far (p := ⟨go112, (x25_3 : Int).toNat, none⟩) (Kd.R_mono HO_10.out (fun k_ hk => (⟨hk, fun e_ => hk.2.2 (by rw [e_]; rfl)⟩ : _ ∧ k_ ≠ go112))) (fun _ hk => hk.2) (.int .u32 (((Go.bits .or .u64 (IntKind.u64.wrap ((IntKind.u64.wrap (rd x8_2 (ji104))) * 4294967296)) (IntKind.u64.wrap (rd x8_2 x25_3))) / 2 ^ x7_1.toNat) % 4294967296))) (fun _ hk => ⟨hk.1.1, ⟨hk.1.2.1, hk.1.2.2⟩⟩)⟩, ⟨by (with_reducible repeat (first | apply Kd.R_alloc | apply Kd.R_drewN | apply Kd.R_drew)); exact HQ115.out⟩, ⟨zH⟩⟩
          ·rw [if_neg c103] at H
           have c103b0 := decide_eq_false c103
           clear c103
           replace H := bS H
           obtain ⟨t402, A116, H⟩ := H
           replace H := bS H
           obtain ⟨t405, A117, H⟩ := H
           simp only [Option.some.injEq, Prod.mk.injEq] at H
           obtain ⟨rfl, rfl⟩ := H
           obtain ⟨Ao118, co118, eo118⟩ := Kd.R_slice HO_10.out
           subst eo118
           go_wp2_with (first | (refine goesLA 270 Tryd.func78 #[.slice Ao118 x10_2.length co118] ?_; (with_reducible refine (R1strip.calls k3 (fun k_ => some k_ = (.slice Ao118 x10_2.length co118 : Value).ownBlock) _ _ x10_2 t402 _ ?side1 A116.out).mono ?_); (case side1 => exact Kd.R_V (Kd.R_tight rfl (HO_10.out))); rintro e w119 ⟨v403, rfl, ho0, hb⟩; refine ⟨_, rfl, ?_⟩; have n0_ := Aside0.mk (Kd.R_below zq18 hb); have n1_ := Aside0.mk (Kd.R_below zq7 hb); have n2_ := Aside0.mk (Kd.R_below zq43 hb); have n3_ := Aside0.mk (Kd.V_lower (Kd.V_mono (ok' := fun k_ => (w.heap.size ≤ k_) ∧ some k_ ≠ (v365 : Value).ownBlock ∧ some k_ ≠ (v397 : Value).ownBlock) ho0 (fun k_ hk_ => ⟨Or.elim hk_ (fun hs_ => ((HO_10.out).1 k_ hs_.symm).1) (fun hn_ => (Nat.le_trans (below_size zH) hn_)), Or.elim hk_ (fun hs_ => ((HO_10.out).1 k_ hs_.symm).2.1) (fun hn_ => (Kd.fresh' (Kd.R_lt zq18) k_ hn_)), Or.elim hk_ (fun hs_ => ((HO_10.out).1 k_ hs_.symm).2.2) (fun hn_ => (Kd.fresh' (Kd.R_lt zq43) k_ hn_))⟩)) (below_size zH)); have n4_ := sB hb; revert n0_ n1_ n2_ n3_ n4_; clear HO_8 HO_10 HO_24 HB; intro HO_8 HO_10 HO_24 HO404 HB; (try clear hb); (try clear hb2); (try clear hk); (try clear hi); (try clear ho0); obtain ⟨Ao120, co120, eo120⟩ := Kd.R_slice HO_24.out; subst eo120) | (refine goesLA 272 Tryd.func78 #[.slice Ao120 x24_3.length co120] ?_; (with_reducible refine (R1strip.calls k3 (fun k_ => some k_ = (.slice Ao120 x24_3.length co120 : Value).ownBlock) _ _ x24_3 t405 _ ?side1 A117.out).mono ?_); (case side1 => exact Kd.R_V (Kd.R_tight rfl (HO_24.out))); rintro e w121 ⟨v406, rfl, ho0, hb⟩; refine ⟨_, rfl, ?_⟩; have n0_ := Aside0.mk (Kd.R_below zq18 hb); have n1_ := Aside0.mk (Kd.R_below zq7 hb); have n2_ := Aside0.mk (Kd.R_below zq43 hb); have n3_ := Aside0.mk (Kd.V_below (by (with_reducible repeat (first | apply Kd.V_alloc | apply Kd.V_drewN | apply Kd.V_drew)); exact HO404.out) hb); have n4_ := Aside0.mk (Kd.V_lower (Kd.V_mono (ok' := fun k_ => (w.heap.size ≤ k_) ∧ some k_ ≠ (v365 : Value).ownBlock ∧ some k_ ≠ (.slice Ao118 x10_2.length co118 : Value).ownBlock) ho0 (fun k_ hk_ => ⟨Or.elim hk_ (fun hs_ => ((HO_24.out).1 k_ hs_.symm).1) (fun hn_ => (Nat.le_trans (below_size zH) hn_)), Or.elim hk_ (fun hs_ => ((HO_24.out).1 k_ hs_.symm).2.1) (fun hn_ => (Kd.fresh' (Kd.R_lt zq18) k_ hn_)), Or.elim hk_ (fun hs_ => ((HO_24.out).1 k_ hs_.symm).2.2) (fun hn_ => (Kd.fresh' (Kd.R_lt zq7) k_ hn_))⟩)) (below_size zH)); have n5_ := sB hb; revert n0_ n1_ n2_ n3_ n4_ n5_; clear HO_8 HO_10 HO_24 HO404 HB; intro HO_8 HO_10 HO_24 HO404 HO407 HB; (try clear hb); (try clear hb2); (try clear hk); (try clear hi); (try clear ho0)))
           go_ret2
           exact ⟨_, _, by first | rfl | (simp [errW_none, errW_some] <;> rfl) | (simp only [← hji3, ← hji13]; first | rfl | (simp [errW_none, errW_some] <;> rfl)) | (simp [*, errW_none, errW_some] <;> rfl), by (with_reducible repeat (first | apply Kd.V_alloc | apply Kd.V_drewN | apply Kd.V_drew)); exact Kd.V_mono HO404.out (fun _ hk => hk.1), by (with_reducible repeat (first | apply Kd.V_alloc | apply Kd.V_drewN | apply Kd.V_drew)); exact Kd.V_mono HO407.out (fun _ hk => hk.1), zH⟩
end Go.Proofs.YtggfilmdfpmbmaaDoor.QN
end
