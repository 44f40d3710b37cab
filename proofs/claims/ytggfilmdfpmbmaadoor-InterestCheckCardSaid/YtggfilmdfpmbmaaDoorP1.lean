/-
  Steps and laws behind the statement that the claim's last text proves: the words of the walks, the walks of the Go functions (printed by a program of this session's own, then shortened by one), and what they compute. Conditions: stated at each theorem.
-/
import Derived.Test.YtggfilmdfpmbmaaDoorProg
import Derived.Below
import Derived.Deep.Draws
import Derived.Deep.AppendLies
import Derived.Maps.AppendAt
import Derived.OwnWalk
import Derived.Laws.BytesArg
import Derived.Laws.MakeOwn
import Derived.Laws.OwnMore
import Derived.Deep.OwnRows
import Derived.Tactics
import Derived.Lib.ConvBytes
import Derived.Laws.Slices
import Derived.WalkKit
import Derived.KernelRfl
import Derived.RowKit3
import Derived.Deep.LoopGhost
import Derived.Deep.QuietTactic
import Derived.BigQuiet
import Derived.WideLaws
import Derived.Deep.DeepCutAuto
import Derived.Deep.CutBlock
import Derived.Deep.RegionHeld3
import Derived.Laws.Rows
import Derived.Lib.AppendStr
import Derived.ArgAppend
import Derived.Laws.IdiomCopy
import Derived.OrdersHeld
import Derived.Laws.BitsLemmas
import Derived.RowKit
import Derived.Lib.Strings
import Derived.Lib.Slices
import Derived.Lib.Small
import Derived.Lib.Walk
import Derived.Lib.BitFns
import Derived.Lib.Bytealg
import Derived.Test.YtggfilmdfpmbmaaDoorPB
import Derived.Test.YtggfilmdfpmbmaaDoorP0
section
namespace Go.Proofs.YtggfilmdfpmbmaaDoor.QN
open Go.RowKit Go.Proofs.YtggfilmdfpmbmaaDoorW.PrintWords Go.Proofs.YtggfilmdfpmbmaaDoorW.PrintLast Go.Proofs.YtggfilmdfpmbmaaDoorW.PrintMore
attribute [local go_sem] max2_int min2_int max_two min_two max_three min_three max_four min_four   -- for this text's walks alone
set_option linter.unusedVariables false
set_option linter.unusedSimpArgs false
def errW : Option Int → Value
  | none => .nilIface
  | some c => .iface 0 (.int .i64 c)
theorem errW_none : errW none = .nilIface := rfl
theorem errW_some (c : Int) : errW (some c) = .iface 0 (.int .i64 c) := rfl
theorem info5 : (Tryd.prog.info? 5).map (fun i => (i.zero, i.size, i.bytes)) = some (some (.int .u8 0), 1, 1) := by kernel_rfl
theorem info86 : (Tryd.prog.info? 86).map (fun i => (i.zero, i.size, i.bytes)) = some (some (.int .u32 0), 1, 4) := by kernel_rfl
end Go.Proofs.YtggfilmdfpmbmaaDoor.QN
end
section
namespace Go.Proofs.YtggfilmdfpmbmaaDoor.QN
open Go.RowKit Go.Proofs.YtggfilmdfpmbmaaDoorW.PrintWords Go.Proofs.YtggfilmdfpmbmaaDoorW.PrintLast Go.Proofs.YtggfilmdfpmbmaaDoorW.PrintMore
attribute [local go_sem] max2_int min2_int max_two min_two max_three min_three max_four min_four   -- for this text's walks alone
set_option linter.unusedVariables false
set_option linter.unusedSimpArgs false
def T1trimLeftByte.l0 : Nat → ByteArray → Int → Option (ByteArray)
 | 0, _, _ => none
 | k + 1, x0, x1 => if (x0.size : Int) > 0 then (if 0 < (x0.size : Int) then (if (bt x0 0) = x1 then (if 1 ≤ (x0.size : Int) then (T1trimLeftByte.l0 k (x0.extract 1 x0.size) x1) else (none)) else (some x0)) else (none)) else (some x0)
def T1trimLeftByte.f (k : Nat) (a0 : ByteArray) (a1 : Int) : Option (ByteArray) := T1trimLeftByte.l0 k a0 a1
set_option maxHeartbeats 8000000 in
set_option maxRecDepth 100000 in
theorem T1trimLeftByte.calls (k : Nat) (a0 : ByteArray) (a1 : Int) (r : ByteArray) (w : World) (h : T1trimLeftByte.f k a0 a1 = some r) :
 Calls Tryd.prog 93 #[.string a0, .int .u8 a1] w fun e w' => e = .returned (.string r) ∧ Drawn0 w w' := by
 have H : (T1trimLeftByte.l0 k a0 a1) = some r := h
 clear h
 have H' := Aside0.mk H
 clear H
 go_enter Tryd.func93, Tryd.ntmps93
 go_wp2
 go_loopg [0] k (fun kq v0 w' => ∃ (x0_1 : ByteArray), v0 = .string x0_1 ∧ Aside0 (T1trimLeftByte.l0 kq x0_1 a1 = some r) ∧ Aside0 (kq ≤ k) ∧ Drawn0 w w')
 case atStart => exact ⟨(a0), zq1, H', ⟨Nat.le_refl _⟩, by repeat (first | exact Drawn0.refl _ | apply Drawn0.step)⟩
 case round =>
  clear H'
  try clear p2
  obtain ⟨x0_1, rfl, HA, HK1, ⟨m1, rfl⟩⟩ := hrel
  cases gk with
  | zero => exact absurd HA.out (by simp [T1trimLeftByte.l0])
  | succ k1 =>
   have H := HA.out
   clear HA
   simp only [T1trimLeftByte.l0] at H
   by_cases c3 : (x0_1.size : Int) > 0
   ·rw [if_pos c3] at H
    have c3b0 := decide_eq_true c3
    have c3b1 : decide (0 < x0_1.size) = true := decide_eq_true (by omega)
    clear c3
    replace H := of_ite H
    obtain ⟨c4, H⟩ := H
    have c4b0 := decide_eq_true c4
    have c4b1 : decide (0 < x0_1.size) = true := decide_eq_true (by omega)
    clear c4
    by_cases c6 : (bt x0_1 0) = a1
    ·rw [if_pos c6] at H
     have c6b0 := beq_iff_eq.mpr c6
     have c6b1 : ((bt x0_1 0) != a1) = false := bne_eq_false_iff_eq.mpr c6
     clear c6
     replace H := of_ite H
     obtain ⟨c7, H⟩ := H
     have c7b0 := eq_true c7
     have c7b1 := decide_eq_true c7
     clear c7
     have H' := Aside0.mk H
     clear H
     have p5 : 0 ≤ (0 : Int) := (by omega)
     have q5 : 0 < x0_1.size := (by have : (0 : Int) < (x0_1.size : Int) := of_decide_eq_true zq0; omega)
     have hx5 : ∀ h : 0 < x0_1.size, ((x0_1[0]'h).toNat : Int) = bt x0_1 0 := bt_at x0_1 0
     clear p5
     have qi5 : (0 < (x0_1.size : Int)) = True := eq_true (of_decide_eq_true zq0)
     replace q5 := eq_true q5
     go_wp2
     go_roundg k1
     case measure => have := HK1.out; omega
     case rel => exact ⟨(x0_1.extract 1 x0_1.size), zq1, H', ⟨by have := HK1.out; omega⟩, by repeat (first | exact Drawn0.refl _ | apply Drawn0.step)⟩
    ·rw [if_neg c6] at H
     have c6b0 := beq_eq_false_iff_ne.mpr c6
     have c6b1 := bne_iff_ne.mpr c6
     obtain rfl := Option.some.inj H
     have p5 : 0 ≤ (0 : Int) := (by omega)
     have q5 : 0 < x0_1.size := (by have : (0 : Int) < (x0_1.size : Int) := of_decide_eq_true zq0; omega)
     have hx5 : ∀ h : 0 < x0_1.size, ((x0_1[0]'h).toNat : Int) = bt x0_1 0 := bt_at x0_1 0
     clear p5
     have qi5 : (0 < (x0_1.size : Int)) = True := eq_true (of_decide_eq_true zq0)
     replace q5 := eq_true q5
     go_wp2
     go_ret
     exact ⟨by first | rfl | (simp; done) | (simp [*]; done), by repeat (first | exact Drawn0.refl _ | apply Drawn0.step)⟩
   ·rw [if_neg c3] at H
    have c3b0 := decide_eq_false c3
    have c3b1 : decide (0 < x0_1.size) = false := decide_eq_false (by omega)
    clear c3
    obtain rfl := Option.some.inj H
    go_wp2
    go_ret
    exact ⟨by first | rfl | (simp; done) | (simp [*]; done), by repeat (first | exact Drawn0.refl _ | apply Drawn0.step)⟩
def T1TrimLeft.f (k : Nat) (a0 : ByteArray) (a1 : ByteArray) : Option (ByteArray) := if a1 = (⟨#[0]⟩ : ByteArray) then (T1trimLeftByte.f k a0 0) else (none)
set_option maxHeartbeats 4000000 in
set_option maxRecDepth 100000 in
theorem T1TrimLeft.calls (k : Nat) (a0 : ByteArray) (a1 : ByteArray) (r : ByteArray) (w : World) (h : T1TrimLeft.f k a0 a1 = some r) :
 Calls Tryd.prog 84 #[.string a0, .string a1] w fun e w' => e = .returned (.string r) ∧ Drawn0 w w' := by
 unfold T1TrimLeft.f at h
 split at h
 ·rename_i h1
  subst h1
  have h' := Aside0.mk h
  clear h
  by_cases h2 : a0.toList = []
  ·have e : a0.toList.isEmpty = true := by rw [h2]; rfl
   have e3 : (!a0.toList.isEmpty) = false := by rw [h2]; rfl
   have h5 := h'.out
   have z0 : a0.size = 0 := by
    rw [ByteArray.toList_eq] at h2
    have := congrArg List.length h2
    rw [Array.length_toList] at this
    exact this
   have hr : a0 = r := by
    cases k with
    | zero => simp [T1trimLeftByte.f, T1trimLeftByte.l0] at h5
    | succ k =>
     simp only [T1trimLeftByte.f, T1trimLeftByte.l0] at h5
     rw [if_neg (by omega)] at h5
     exact Option.some.inj h5
   subst hr
   clear h5 z0 h'
   go_enter Tryd.func84, Tryd.ntmps84
   go_wp2
   go_ret
   exact ⟨rfl, Drawn0.refl _⟩
  ·have e : a0.toList.isEmpty = false := by cases hh : a0.toList with | nil => exact absurd hh h2 | cons _ _ => rfl
   have e3 : (!a0.toList.isEmpty) = true := by rw [e]; rfl
   go_enter Tryd.func84, Tryd.ntmps84
   go_wp2_with (go_at_call 93; refine (T1trimLeftByte.calls k a0 0 r _ h'.out).mono ?_; rintro e w' ⟨rfl, ⟨m1, rfl⟩⟩)
   go_ret
   exact ⟨rfl, by repeat (first | exact Drawn0.refl _ | apply Drawn0.step)⟩
 ·cases h
def N1Normalize.f (k : Nat) (a0 : ByteArray) : Option (ByteArray) := (T1TrimLeft.f k a0 (⟨#[0]⟩ : ByteArray)).bind fun t101 => (some t101)
set_option maxHeartbeats 8000000 in
set_option maxRecDepth 100000 in
theorem N1Normalize.calls (k : Nat) (a0 : ByteArray) (r : ByteArray) (w : World) (h : N1Normalize.f k a0 = some r) :
 Calls Tryd.prog 63 #[.string a0] w fun e w' => e = .returned (.string r) ∧ Drawn0 w w' := by
 have H : ((T1TrimLeft.f k a0 (⟨#[0]⟩ : ByteArray)).bind fun t101 => (some t101)) = some r := h
 clear h
 replace H := Option.bind_eq_some_iff.mp H
 obtain ⟨t101, A20, H⟩ := H
 (try dsimp only at H)
 have A2 := Aside0.mk A20
 clear A20
 obtain rfl := Option.some.inj H
 go_enter Tryd.func63, Tryd.ntmps63
 go_wp2_with (first | (refine goesLA 4 Tryd.func84 #[.string a0, .string (⟨#[0]⟩ : ByteArray)] ?_; (with_reducible refine (T1TrimLeft.calls k a0 (⟨#[0]⟩ : ByteArray) t101 _ A2.out).mono ?_); rintro e w' ⟨rfl, ⟨nd, rfl⟩⟩; refine ⟨_, rfl, ?_⟩))
 go_ret
 exact ⟨by first | rfl | (simp; done) | (simp [*]; done), by repeat (first | exact Drawn0.refl _ | apply Drawn0.step)⟩
def N1limbs_trim.l0 : Nat → List Int → Int → Option (List Int)
 | 0, _, _ => none
 | k + 1, x0, x3 => if x3 > 0 then (if 0 ≤ (wrap64 (x3 - 1)) then (if (wrap64 (x3 - 1)) < (x0.length : Int) then (if (rd x0 (wrap64 (x3 - 1))) = 0 then (N1limbs_trim.l0 k x0 (wrap64 (x3 - 1))) else (if 0 ≤ x3 then (if x3 ≤ (x0.length : Int) then (some (x0.take (x3 : Int).toNat)) else (none)) else (none))) else (none)) else (none)) else (if 0 ≤ x3 then (if x3 ≤ (x0.length : Int) then (some (x0.take (x3 : Int).toNat)) else (none)) else (none))
def N1limbs_trim.f (k : Nat) (l0 : List Int) : Option (List Int) := N1limbs_trim.l0 k l0 (l0.length : Int)
set_option maxHeartbeats 8000000 in
set_option maxRecDepth 100000 in
theorem N1limbs_trim.calls (k : Nat) (P0_ : Nat → Prop) (A0 : Option Addr) (c0 : Nat) (l0 : List Int) (r : List Int) (w : World) (hs0 : Kd.V (Kd.int .u32) 86 w w.heap.size (fun k_ => P0_ k_) (.slice A0 l0.length c0) l0) (h : N1limbs_trim.f k l0 = some r) :
 Calls Tryd.prog 86 #[.slice A0 l0.length c0] w fun e w' => ∃ v0_ : Value, e = .returned (v0_) ∧ Kd.V (Kd.int .u32) 86 w' w.heap.size (fun k_ => (P0_ k_ ∨ w.heap.size ≤ k_)) v0_ r ∧ Below w.heap.size w w' := by
 have HO0 := Aside0.mk (show Kd.V (Kd.int .u32) 86 w w.heap.size (fun k_ => (P0_ k_ ∨ w.heap.size ≤ k_)) (.slice A0 l0.length c0) l0 from Kd.V_mono hs0 (fun k_ hk => .inl hk))
 have HB := Aside0.mk (Below.refl w.heap.size w)
 have H : (N1limbs_trim.l0 k l0 (l0.length : Int)) = some r := h
 clear h
 have H' := Aside0.mk H
 clear H
 go_enter Tryd.func86, Tryd.ntmps86
 go_wp2
 go_loopg [3] k (fun kq v3 w' => ∃ (x3_1 : Int), v3 = .int .i64 x3_1 ∧ Aside0 (N1limbs_trim.l0 kq l0 x3_1 = some r) ∧ Aside0 (kq ≤ k) ∧ Aside0 (Kd.V (Kd.int .u32) 86 w' w.heap.size (fun k_ => (P0_ k_ ∨ w.heap.size ≤ k_)) (.slice A0 l0.length c0) l0) ∧ Aside0 (Below w.heap.size w w'))
 case atStart => exact ⟨((l0.length : Int)), zq1, H', ⟨Nat.le_refl _⟩, ⟨by (with_reducible repeat (first | apply Kd.V_alloc | apply Kd.V_drewN | apply Kd.V_drew)); exact HO0.out⟩, ⟨zH⟩⟩
 case round =>
  clear H'
  obtain ⟨x3_1, rfl, HA, HK1, HO_0, HB⟩ := hrel
  cases gk with
  | zero => exact absurd HA.out (by simp [N1limbs_trim.l0])
  | succ k1 =>
   have H := HA.out
   clear HA
   simp only [N1limbs_trim.l0] at H
   by_cases c2 : x3_1 > 0
   ·rw [if_pos c2] at H
    have c2b0 := decide_eq_true c2
    clear c2
    obtain ⟨ji3, hji3⟩ : ∃ j_ : Int, (wrap64 (x3_1 - 1)) = j_ := ⟨_, rfl⟩
    first | rw [hji3] at H | simp only [hji3] at H
    have hji3w : (IntKind.i64.wrap (x3_1 - 1)) = ji3 := (i64_w _).trans hji3
    replace H := of_ite H
    obtain ⟨c4, H⟩ := H
    have c4b0 := decide_eq_true c4
    clear c4
    replace H := of_ite H
    obtain ⟨c5, H⟩ := H
    have c5b0 := decide_eq_true c5
    clear c5
    by_cases c6 : (rd l0 (ji3)) = 0
    ·rw [if_pos c6] at H
     have c6b0 := beq_iff_eq.mpr c6
     have c6b1 : ((rd l0 (ji3)) != 0) = false := bne_eq_false_iff_eq.mpr c6
     clear c6
     have H' := Aside0.mk H
     clear H
     have p102 : 0 ≤ ((ji3) : Int) := of_decide_eq_true zq0
     have q102 : (ji3) < (l0.length : Int) := of_decide_eq_true zq0
     obtain ⟨ad102, e102, hx102_0⟩ := Kd.at_int (Kd.V_reads' HO_0.out).2.2 (ji3) p102 q102
     cases e102
     replace p102 := eq_true p102
     replace q102 := eq_true q102
     go_wp2
     go_roundg k1
     case measure => have := HK1.out; omega
     case rel => exact ⟨(ji3), (by first | rfl | (simp; done) | (simp only [← hji3] <;> (first | rfl | simp)) | (simp [*]; done)), H', ⟨by have := HK1.out; omega⟩, ⟨by (with_reducible repeat (first | apply Kd.V_alloc | apply Kd.V_drewN | apply Kd.V_drew)); exact HO_0.out⟩, ⟨zH⟩⟩
    ·rw [if_neg c6] at H
     have c6b0 := beq_eq_false_iff_ne.mpr c6
     have c6b1 := bne_iff_ne.mpr c6
     replace H := of_ite H
     obtain ⟨c7, H⟩ := H
     have c7b0 := eq_true c7
     have c7b1 := decide_eq_true c7
     clear c7
     replace H := of_ite H
     obtain ⟨c8, H⟩ := H
     have c8b0 := eq_true c8
     have c8b1 := decide_eq_true c8
     clear c8
     obtain ⟨y103, hy103⟩ : ∃ y_ : List Int, y_ = (l0.take (x3_1 : Int).toNat) := ⟨_, rfl⟩
     replace H : (some y103) = some r := by first | (rw [hy103]; with_reducible exact H) | (have H2_ := (Option.bind_some _ _).symm.trans H; rw [hy103]; with_reducible exact H2_) | (have H2_ := (Option.bind_some _ _).symm.trans H; with_reducible exact H2_) | with_reducible exact H | (rw [hy103]; exact H) | exact H
     have Ny103 := Aside0.mk hy103
     clear hy103
     obtain rfl := Option.some.inj H
     have p102 : 0 ≤ ((ji3) : Int) := of_decide_eq_true zq0
     have q102 : (ji3) < (l0.length : Int) := of_decide_eq_true zq0
     obtain ⟨ad102, e102, hx102_0⟩ := Kd.at_int (Kd.V_reads' HO_0.out).2.2 (ji3) p102 q102
     cases e102
     replace p102 := eq_true p102
     replace q102 := eq_true q102
     have q9 : (x3_1 : Int) ≤ ((l0.length : Int) : Int) := of_decide_eq_true zq0
     obtain ⟨i09, hi09, _, hsz9, _⟩ := info_parts info86
     have hroom9 : l0.length ≤ c0 := (Kd.V_reads' HO_0.out).2.1
     have hC9 : Kd.F (Kd.int .u32) _ _ (some ad102) l0.length l0 := (Kd.V_at (base := w.heap.size) HO_0.out).2.2
     have hcut9 := cut_to (P := Tryd.prog) 84 86 .i64 Tryd.underlying84 hi09 (some ad102) l0.length c0 x3_1 (of_decide_eq_true zq0) q9 hroom9
     have hr9 := Kd.F_take (m := (x3_1 : Int).toNat) hC9 (by omega)
     have hy9 : y103.length = (x3_1 : Int).toNat := (by rw [Ny103.out, List.length_take]; omega)
     rw [← Ny103.out] at hr9
     rw [← hy9] at hcut9
     have HO107 := Aside0.mk (show Kd.V (Kd.int .u32) 86 _ w.heap.size _ (.slice (some ad102) y103.length c0) y103 from Kd.V_mk (by omega) hr9)
     have HC107 := Aside0.mk (show y103.length ≤ c0 from by omega)
     clear hr9 hC9 hroom9 hi09 hsz9
     have KY9 := Aside0.mk hy9
     clear hy9
     replace q9 := eq_true q9
     go_wp2
     go_ret
     exact ⟨_, by first | rfl | (simp [errW_none, errW_some] <;> rfl) | (simp only [← hji3]; first | rfl | (simp [errW_none, errW_some] <;> rfl)) | (simp [*, errW_none, errW_some] <;> rfl), by (with_reducible repeat (first | apply Kd.V_alloc | apply Kd.V_drewN | apply Kd.V_drew)); exact HO107.out, zH⟩
   ·rw [if_neg c2] at H
    have c2b0 := decide_eq_false c2
    clear c2
    replace H := of_ite H
    obtain ⟨c10, H⟩ := H
    have c10b0 := eq_true c10
    have c10b1 := decide_eq_true c10
    clear c10
    replace H := of_ite H
    obtain ⟨c11, H⟩ := H
    have c11b0 := eq_true c11
    have c11b1 := decide_eq_true c11
    clear c11
    obtain ⟨y108, hy108⟩ : ∃ y_ : List Int, y_ = (l0.take (x3_1 : Int).toNat) := ⟨_, rfl⟩
    replace H : (some y108) = some r := by first | (rw [hy108]; with_reducible exact H) | (have H2_ := (Option.bind_some _ _).symm.trans H; rw [hy108]; with_reducible exact H2_) | (have H2_ := (Option.bind_some _ _).symm.trans H; with_reducible exact H2_) | with_reducible exact H | (rw [hy108]; exact H) | exact H
    have Ny108 := Aside0.mk hy108
    clear hy108
    obtain rfl := Option.some.inj H
    have q12 : (x3_1 : Int) ≤ ((l0.length : Int) : Int) := of_decide_eq_true zq0
    obtain ⟨i012, hi012, _, hsz12, _⟩ := info_parts info86
    have hroom12 : l0.length ≤ c0 := (Kd.V_reads' HO_0.out).2.1
    have hC12 : Kd.F (Kd.int .u32) _ _ A0 l0.length l0 := (Kd.V_at (base := w.heap.size) HO_0.out).2.2
    have hcut12 := cut_to (P := Tryd.prog) 84 86 .i64 Tryd.underlying84 hi012 A0 l0.length c0 x3_1 (of_decide_eq_true zq0) q12 hroom12
    have hr12 := Kd.F_take (m := (x3_1 : Int).toNat) hC12 (by omega)
    have hy12 : y108.length = (x3_1 : Int).toNat := (by rw [Ny108.out, List.length_take]; omega)
    rw [← Ny108.out] at hr12
    rw [← hy12] at hcut12
    have HO112 := Aside0.mk (show Kd.V (Kd.int .u32) 86 _ w.heap.size _ (.slice A0 y108.length c0) y108 from Kd.V_mk (by omega) hr12)
    have HC112 := Aside0.mk (show y108.length ≤ c0 from by omega)
    clear hr12 hC12 hroom12 hi012 hsz12
    have KY12 := Aside0.mk hy12
    clear hy12
    replace q12 := eq_true q12
    go_wp2
    go_ret
    exact ⟨_, zE, by (with_reducible repeat (first | apply Kd.V_alloc | apply Kd.V_drewN | apply Kd.V_drew)); exact HO112.out, zH⟩
def N1parse.l0 : Nat → ByteArray → List Int → Int → Int → Option (List Int)
 | 0, _, _, _, _ => none
 | k + 1, x0, x3, x12, x13 => if x13 < x12 then (if 0 ≤ (wrap64 (Int.tdiv x13 4)) then (if (wrap64 (Int.tdiv x13 4)) < (x3.length : Int) then (if 0 ≤ (wrap64 ((wrap64 ((x0.size : Int) - 1)) - x13)) then (if (wrap64 ((wrap64 ((x0.size : Int) - 1)) - x13)) < (x0.size : Int) then (if 0 ≤ (wrap64 (8 * (Int.tmod x13 4))) then (if (wrap64 (8 * (Int.tmod x13 4))) ≤ 32 then (N1parse.l0 k x0 (x3.set ((wrap64 (Int.tdiv x13 4)) : Int).toNat (Go.bits .or .u32 (rd x3 (wrap64 (Int.tdiv x13 4))) ((((bt x0 (wrap64 ((wrap64 ((x0.size : Int) - 1)) - x13))) % 4294967296) * 2 ^ (wrap64 (8 * (Int.tmod x13 4))).toNat) % 4294967296))) x12 (wrap64 (x13 + 1))) else (none)) else (none)) else (none)) else (none)) else (none)) else (none)) else ((N1limbs_trim.f k x3).bind fun t118 => (some t118))
def N1parse.f (k : Nat) (a0 : ByteArray) : Option (List Int) := if 0 ≤ (wrap64 (Int.tdiv (wrap64 ((wrap64 ((a0.size : Int) + 4)) - 1)) 4)) then (if (wrap64 (Int.tdiv (wrap64 ((wrap64 ((a0.size : Int) + 4)) - 1)) 4) : Int).toNat ≤ 70368744177664 then (N1parse.l0 k a0 (List.replicate (wrap64 (Int.tdiv (wrap64 ((wrap64 ((a0.size : Int) + 4)) - 1)) 4) : Int).toNat 0) (a0.size : Int) 0) else (none)) else (none)
def N1parse.T5 : Bool × List (List Nat × List Nat) := (true, [([], []), ([], []), ([1], [1]), ([0, 2], [0, 2]), ([3], [3]), ([], []), ([], []), ([6], [6]), ([7], [7]), ([], []), ([8, 9], [8, 9]), ([5, 10], [5, 10]), ([11], [11]), ([], []), ([13], [13]), ([14], [14]), ([12, 15], [12, 15]), ([4, 16], [4, 16]), ([0, 2, 0, 1, 2, 3, 4, 5, 6, 7, 8, 9, 10, 11, 12, 13, 14, 15, 16, 17], [0, 2]), ([18, 17, 0, 1, 2, 3, 4, 5, 6, 7, 8, 9, 10, 11, 12, 13, 14, 15, 16, 17], [17, 18])])
def N1parse.B5 : List Nat := [0, 0, 2, 7, 15, 0, 0, 64, 192, 0, 960, 2016, 4064, 0, 8192, 24576, 65504, 131071, 262143, 524287]
theorem N1parse.tab5 : rtab .any (opsOf Tryd.f66 5) = N1parse.T5 := by kernel_rfl
theorem N1parse.bits5 : waitsOk N1parse.T5.2 N1parse.B5 = true := by kernel_rfl
set_option maxHeartbeats 8000000 in
set_option maxRecDepth 100000 in
theorem N1parse.calls (k : Nat) (a0 : ByteArray) (r : List Int) (w : World) (h : N1parse.f k a0 = some r) :
 Calls Tryd.prog 66 #[.string a0] w fun e w' => ∃ v0_ : Value, e = .returned (v0_) ∧ Kd.V (Kd.int .u32) 86 w' w.heap.size (fun k_ => (w.heap.size ≤ k_)) v0_ r ∧ Below w.heap.size w w' := by
 have HB := Aside0.mk (Below.refl w.heap.size w)
 have H : (if 0 ≤ (wrap64 (Int.tdiv (wrap64 ((wrap64 ((a0.size : Int) + 4)) - 1)) 4)) then (if (wrap64 (Int.tdiv (wrap64 ((wrap64 ((a0.size : Int) + 4)) - 1)) 4) : Int).toNat ≤ 70368744177664 then (N1parse.l0 k a0 (List.replicate (wrap64 (Int.tdiv (wrap64 ((wrap64 ((a0.size : Int) + 4)) - 1)) 4) : Int).toNat 0) (a0.size : Int) 0) else (none)) else (none)) = some r := h
 clear h
 obtain ⟨ji2, hji2⟩ : ∃ j_ : Int, (wrap64 (Int.tdiv (wrap64 ((wrap64 ((a0.size : Int) + 4)) - 1)) 4)) = j_ := ⟨_, rfl⟩
 first | rw [hji2] at H | simp only [hji2] at H
 have hji2w : (IntKind.i64.wrap (Int.tdiv (wrap64 ((wrap64 ((a0.size : Int) + 4)) - 1)) 4)) = ji2 := (i64_w _).trans hji2
 replace H := of_ite H
 obtain ⟨c3, H⟩ := H
 have c3b0 := eq_true c3
 have c3b1 := decide_eq_true c3
 clear c3
 replace H := of_ite H
 obtain ⟨c4, H⟩ := H
 have c4b0 := eq_true c4
 have c4b1 := decide_eq_true c4
 clear c4
 obtain ⟨y113, hy113⟩ : ∃ y_ : List Int, y_ = (List.replicate (ji2 : Int).toNat 0) := ⟨_, rfl⟩
 replace H : (N1parse.l0 k a0 y113 (a0.size : Int) 0) = some r := by first | (rw [hy113]; with_reducible exact H) | (have H2_ := (Option.bind_some _ _).symm.trans H; rw [hy113]; with_reducible exact H2_) | (have H2_ := (Option.bind_some _ _).symm.trans H; with_reducible exact H2_) | with_reducible exact H | (rw [hy113]; exact H) | exact H
 have Ny113 := Aside0.mk hy113
 clear hy113
 have H' := Aside0.mk H
 clear H
 go_enter Tryd.func66, Tryd.ntmps66
 go_wp2_with (first | ((with_reducible refine gate_dst (N := 10) rfl ?_); refine Kd.R_make (Kd.int .u32) _ 86 rfl (N := 10) rfl 84 _ _ rfl ji2 rfl rfl Tryd.underlying84 (.int .u32 0) 4 info86 rfl (by decide) (by omega) 0 (ok := fun _ => True) (okp := fun _ => True) rfl (fun _ hk => hk) trivial (of_decide_eq_true zq0) (Nat.le_trans (Nat.mul_le_mul_right _ (of_decide_eq_true zq0 : ji2.toNat ≤ 70368744177664)) (by omega)) (Below.refl _ _) (Nat.le_refl _) ?_; intro v114 w5 ho6 hb hg_ hnew_; clear hg_ hnew_; (first | rw [← Ny113.out] at ho6 | (simp only [Int.reduceToNat] at ho6; rw [← Ny113.out] at ho6)); have n0_ := Aside0.mk (Kd.R_lower (Kd.R_newM (M := fun k_ => (w.heap.size ≤ k_)) ho6 (below_size zH) (fun k_ h_ => h_)) (below_size zH)); have n1_ := sB hb; revert n0_ n1_; clear HB; intro HO115 HB; clear hb ho6))
 go_loopg [13] k (fun kq v13 w' => ∃ (x3_1 : List Int) (x13_1 : Int), v13 = .int .i64 x13_1 ∧ Aside0 (N1parse.l0 kq a0 x3_1 (a0.size : Int) x13_1 = some r) ∧ Aside0 (kq ≤ k) ∧ Aside0 (Kd.R (Kd.int .u32) 86 w' w.heap.size (fun k_ => (w.heap.size ≤ k_)) v114 x3_1) ∧ Aside0 (Below w.heap.size w w'))
 case atStart => exact ⟨(y113), (0), zq1, H', ⟨Nat.le_refl _⟩, ⟨by (with_reducible repeat (first | apply Kd.R_alloc | apply Kd.R_drewN | apply Kd.R_drew)); exact Kd.R_mono HO115.out (fun _ hk => hk.1)⟩, ⟨zH⟩⟩
 case round =>
  clear H'
  (try clear p2); (try clear c3); (try clear c3b0); (try clear c3b1); (try clear c4); (try clear c4b0); (try clear c4b1); (try clear c6); (try clear p6)
  obtain ⟨x3_1, x13_1, rfl, HA, HK1, HO_3, HB⟩ := hrel
  cases gk with
  | zero => exact absurd HA.out (by simp [N1parse.l0])
  | succ k1 =>
   have H := HA.out
   clear HA
   simp only [N1parse.l0] at H
   by_cases c7 : x13_1 < (a0.size : Int)
   ·rw [if_pos c7] at H
    have c7b0 := decide_eq_true c7
    clear c7
    obtain ⟨ji8, hji8⟩ : ∃ j_ : Int, (wrap64 (Int.tdiv x13_1 4)) = j_ := ⟨_, rfl⟩
    first | rw [hji8] at H | simp only [hji8] at H
    have hji8w : (IntKind.i64.wrap (Int.tdiv x13_1 4)) = ji8 := (i64_w _).trans hji8
    replace H := of_ite H
    obtain ⟨c9, H⟩ := H
    have c9b0 := decide_eq_true c9
    clear c9
    replace H := of_ite H
    obtain ⟨c10, H⟩ := H
    have c10b0 := decide_eq_true c10
    clear c10
    obtain ⟨ji11, hji11⟩ : ∃ j_ : Int, (wrap64 ((wrap64 ((a0.size : Int) - 1)) - x13_1)) = j_ := ⟨_, rfl⟩
    first | rw [hji11] at H | simp only [hji11] at H
    have hji11w : (IntKind.i64.wrap ((wrap64 ((a0.size : Int) - 1)) - x13_1)) = ji11 := (i64_w _).trans hji11
    replace H := of_ite H
    obtain ⟨c12, H⟩ := H
    have c12b0 := decide_eq_true c12
    clear c12
    replace H := of_ite H
    obtain ⟨c13, H⟩ := H
    have c13b0 := decide_eq_true c13
    clear c13
    obtain ⟨ji15, hji15⟩ : ∃ j_ : Int, (wrap64 (8 * (Int.tmod x13_1 4))) = j_ := ⟨_, rfl⟩
    first | rw [hji15] at H | simp only [hji15] at H
    have hji15w : (IntKind.i64.wrap (8 * (Int.tmod x13_1 4))) = ji15 := (i64_w _).trans hji15
    replace H := of_ite H
    obtain ⟨c16, H⟩ := H
    have c16b0 := eq_true c16
    have c16b1 := decide_eq_true c16
    clear c16
    replace H := of_ite H
    obtain ⟨c17, H⟩ := H
    have c17b0 := eq_true c17
    have c17b1 := decide_eq_true c17
    clear c17
    obtain ⟨y117, hy117⟩ : ∃ y_ : List Int, y_ = (x3_1.set ((ji8) : Int).toNat (Go.bits .or .u32 (rd x3_1 (ji8)) ((((bt a0 (ji11)) % 4294967296) * 2 ^ (ji15).toNat) % 4294967296))) := ⟨_, rfl⟩
    replace H : (N1parse.l0 k1 a0 y117 (a0.size : Int) (wrap64 (x13_1 + 1))) = some r := by first | (rw [hy117]; with_reducible exact H) | (have H2_ := (Option.bind_some _ _).symm.trans H; rw [hy117]; with_reducible exact H2_) | (have H2_ := (Option.bind_some _ _).symm.trans H; with_reducible exact H2_) | with_reducible exact H | (rw [hy117]; exact H) | exact H
    have Ny117 := Aside0.mk hy117
    clear hy117
    have H' := Aside0.mk H
    clear H
    try go_wp2
    have n0_ := Aside0.mk (Kd.R_drew HO_3.out)
    have n1_ := Aside0.mk (below_drew1 HB.out)
    revert n0_ n1_
    clear HO_3 HB
    intro HO_3 HB
    obtain ⟨Ao20, co20, eo20⟩ := Kd.R_slice HO_3.out
    (first | subst eo20 | (injection eo20 with f1_ f2_ f3_; have f4_ := f1_.symm; have f5_ := f3_.symm; clear f1_ f2_ f3_; subst f4_; subst f5_))
    have p116 : 0 ≤ ((ji8) : Int) := of_decide_eq_true zq0
    have q116 : (ji8) < (x3_1.length : Int) := of_decide_eq_true zq0
    obtain ⟨ad116, e116, hx116_0⟩ := Kd.at_int (Kd.R_reads' HO_3.out).2.2 (ji8) p116 q116
    cases e116
    replace p116 := eq_true p116
    replace q116 := eq_true q116
    have p14 : 0 ≤ ((ji11) : Int) := of_decide_eq_true zq0
    have q14 : (ji11) < (a0.size : Int) := of_decide_eq_true zq0
    have hx14 := bt_at a0 (ji11)
    replace p14 := eq_true p14
    replace q14 := eq_true q14
    have p18 : 0 ≤ ((ji8) : Int) := of_decide_eq_true zq0
    have q18 : ((ji8) : Int) < ((x3_1.length : Int) : Int) := of_decide_eq_true zq0
    obtain ⟨go18, co18, eo18, gb18, gl18, cl18, HG18⟩ := Kd.R_form HO_3.out (by omega)
    (first | cases eo18 | (injection eo18 with ea_ en_ ec_; (first | subst ea_ | (injection ea_ with ea_; subst ea_)); subst ec_; clear en_))
    have GB18 := Aside0.mk gb18
    have GG18 := Aside0.mk HG18
    clear gb18 gl18 HG18
    (first | simp only [add_plain] at hx116_0 | skip)
    obtain ⟨hx18_0, hf18_0⟩ := Kd.R_celln 0 HO_3.out ((ji8) : Int) p18 q18
    (try simp only [Go.IntWalk.toNatUp] at hx18_0 hf18_0)
    replace p18 := eq_true p18
    replace q18 := eq_true q18
    have HP21 := Kd.R_putn HO_3.out ((ji8) : Int) (Go.bits .or .u32 (rd x3_1 (ji8)) ((((bt a0 (ji11)) % 4294967296) * 2 ^ (ji15).toNat) % 4294967296))
    rw [← Ny117.out] at HP21
    have HQ21 := Aside0.mk HP21
    clear HP21
    refine start_ (n := 20) (S := fun w' => w'.cell? ⟨go18, ((ji8)).toNat, none⟩ = some (.int .u32 (rd x3_1 (ji8)))) (ds := [19]) #[false, false, false, false, false, false, false, false, false, false, false, false, false, false, false, false, false, false, false, false] (by kernel_rfl) rfl rfl (hx116_0) (fun hHeld => ?_); refine with_tabW N1parse.tab5 N1parse.bits5 (fun HT_ HW_ => ?_)
    generalize wr.drew = w19 at HO_3 HB GG18 HQ21 hf18_0 hx116_0 hx18_0 hHeld ⊢
    refine pureA 0 16 (lB 20 1) rfl rfl ?_
    refine pureA 1 17 (lB 20 3) rfl rfl ?_
    refine pureA 2 18 (lB 20 7) rfl rfl ?_
    refine pureA 3 19 (lB 20 15) rfl rfl ?_
    refine pureA 5 21 (lB 20 47) rfl rfl ?_
    refine pureA 6 22 (lB 20 111) rfl rfl ?_
    refine pureA 7 23 (lB 20 239) rfl rfl ?_
    refine pureA 8 24 (lB 20 495) rfl rfl ?_
    refine pureA 9 25 (lB 20 1007) rfl rfl ?_
    refine pureA 10 26 (lB 20 2031) rfl rfl ?_
    refine pureA 13 29 (lB 20 10223) rfl rfl ?_
    refine pureA 14 30 (lB 20 26607) rfl rfl ?_
    refine pureA 15 31 (lB 20 59375) rfl rfl ?_
    refine take_ (i := 4) (N := some 20) (v := ?_) (a' := ?_) #[true, true, true, true, true, true, true, true, true, true, true, false, false, true, true, true, false, false, false, false] rfl rfl (take_ofW HT_.out HW_.out (by kernel_rfl)) (fun _ _ _ h => h) (Or.inl ⟨by rfl, ?_⟩) hHeld ?_ ?_
    rotate_left
    ·intro w' s0
     go_simp
     with_reducible rfl
    rotate_left
    ·simp only [Act.put, List.setIfInBounds_toArray, List.set_cons_zero, List.set_cons_succ, i64_w, i32_w]
     rfl
    refine take_ (i := 11) (N := some 27) (v := ?_) (a' := ?_) #[true, true, true, true, true, true, true, true, true, true, true, true, false, true, true, true, false, false, false, false] rfl rfl (take_ofW HT_.out HW_.out (by kernel_rfl)) (fun _ _ _ h => h) (Or.inl ⟨by rfl, ?_⟩) hHeld ?_ ?_
    rotate_left
    ·intro w' s0
     go_simp
     with_reducible rfl
    rotate_left
    ·simp only [Act.put, List.setIfInBounds_toArray, List.set_cons_zero, List.set_cons_succ, i64_w, i32_w]
     rfl
    refine pureA 12 28 (lB 20 65535) rfl rfl ?_
    refine pureA 16 32 (lB 20 131071) rfl rfl ?_
    refine pureA 17 33 (lB 20 262143) rfl rfl ?_
    refine pureA 18 34 (lB 20 524287) rfl rfl ?_
    refine last_ (i := 19) (N := none) (lB 20 1048575) rfl rfl (one_of HT_.out (by kernel_rfl)) (by decide) (fun K hK => ?_)
    refine skip_ (w1 := ?_) (by rfl) rfl ?_ ?_
    rotate_left
    ·go_simp
     rfl
    refine hK.out _ _ ?_
    clear hK K
    refine done_ (done_of HT_.out (by kernel_rfl)) ?_
    try go_wp2
    go_roundg k1
    case measure => have := HK1.out; omega
    case rel => exact ⟨(y117), (wrap64 (x13_1 + 1)), zq1, H', ⟨by have := HK1.out; omega⟩, ⟨by (with_reducible repeat (first | apply Kd.R_alloc | apply Kd.R_drewN | apply Kd.R_drew)); exact HQ21.out⟩, ⟨zH⟩⟩
   ·rw [if_neg c7] at H
    have c7b0 := decide_eq_false c7
    clear c7
    replace H := Option.bind_eq_some_iff.mp H
    obtain ⟨t118, A220, H⟩ := H
    (try dsimp only at H)
    have A22 := Aside0.mk A220
    clear A220
    obtain rfl := Option.some.inj H
    obtain ⟨Ao23, co23, eo23⟩ := Kd.R_slice HO_3.out
    subst eo23
    go_wp2_with (first | (refine goesLA 37 Tryd.func86 #[.slice Ao23 x3_1.length co23] ?_; (with_reducible refine (N1limbs_trim.calls k1 (fun k_ => some k_ = (.slice Ao23 x3_1.length co23 : Value).ownBlock) _ _ x3_1 t118 _ ?side1 A22.out).mono ?_); (case side1 => exact Kd.R_V (Kd.R_tight rfl (HO_3.out))); rintro e w24 ⟨v119, rfl, ho0, hb⟩; refine ⟨_, rfl, ?_⟩; have n0_ := Aside0.mk (Kd.R_below zq39 hb); have n1_ := Aside0.mk (Kd.V_lower (Kd.V_mono (ok' := fun k_ => (w.heap.size ≤ k_)) ho0 (fun k_ hk_ => Or.elim hk_ (fun hs_ => ((HO_3.out).1 k_ hs_.symm)) (fun hn_ => (Nat.le_trans (below_size zH) hn_)))) (below_size zH)); have n2_ := sB hb; revert n0_ n1_ n2_; clear HO_3 HB; intro HO_3 HO120 HB; (try clear hb); (try clear hb2); (try clear hk); (try clear hi); (try clear ho0)))
    go_ret
    exact ⟨_, by first | rfl | (simp [errW_none, errW_some] <;> rfl) | (simp only [← hji2]; first | rfl | (simp [errW_none, errW_some] <;> rfl)) | (simp [*, errW_none, errW_some] <;> rfl), by (with_reducible repeat (first | apply Kd.V_alloc | apply Kd.V_drewN | apply Kd.V_drew)); exact HO120.out, zH⟩
end Go.Proofs.YtggfilmdfpmbmaaDoor.QN
end
section
namespace Go.Proofs.YtggfilmdfpmbmaaDoor.QN
open Go.RowKit Go.Proofs.YtggfilmdfpmbmaaDoorW.PrintWords Go.Proofs.YtggfilmdfpmbmaaDoorW.PrintLast Go.Proofs.YtggfilmdfpmbmaaDoorW.PrintMore
attribute [local go_sem] max2_int min2_int max_two min_two max_three min_three max_four min_four   -- for this text's walks alone
set_option linter.unusedVariables false
set_option linter.unusedSimpArgs false
def N1limbs_text.l0 : Nat → List Int → List Int → Int → Int → Option (ByteArray)
 | 0, _, _, _, _ => none
 | k + 1, x0, x3, x10, x11 => if x11 < x10 then (if 0 ≤ (wrap64 (Int.tdiv x11 4)) then (if (wrap64 (Int.tdiv x11 4)) < (x0.length : Int) then (if 0 ≤ (wrap64 (8 * (Int.tmod x11 4))) then (if (wrap64 (8 * (Int.tmod x11 4))) ≤ 32 then (if 0 ≤ (wrap64 ((wrap64 ((x3.length : Int) - 1)) - x11)) then (if (wrap64 ((wrap64 ((x3.length : Int) - 1)) - x11)) < (x3.length : Int) then (N1limbs_text.l0 k x0 (x3.set ((wrap64 ((wrap64 ((x3.length : Int) - 1)) - x11)) : Int).toNat (((rd x0 (wrap64 (Int.tdiv x11 4))) / 2 ^ (wrap64 (8 * (Int.tmod x11 4))).toNat) % 256)) x10 (wrap64 (x11 + 1))) else (none)) else (none)) else (none)) else (none)) else (none)) else (none)) else ((N1Normalize.f k (strOfNums x3)).bind fun t126 => (some t126))
def N1limbs_text.f (k : Nat) (l0 : List Int) : Option (ByteArray) := if 0 ≤ (wrap64 ((l0.length : Int) * 4)) then (if (wrap64 ((l0.length : Int) * 4) : Int).toNat ≤ 281474976710656 then ((some (List.replicate (wrap64 ((l0.length : Int) * 4) : Int).toNat 0 : List Int)).bind fun y121 => (N1limbs_text.l0 k l0 y121 (y121.length : Int) 0)) else (none)) else (none)
set_option maxHeartbeats 8000000 in
set_option maxRecDepth 100000 in
theorem N1limbs_text.calls (k : Nat) (A0 : Option Addr) (c0 : Nat) (l0 : List Int) (r : ByteArray) (w : World) (hr0 : Kd.C (Kd.int .u32) w A0 l0.length l0) (hc0 : l0.length ≤ c0) (h : N1limbs_text.f k l0 = some r) :
 Calls Tryd.prog 67 #[.slice A0 l0.length c0] w fun e w' => e = .returned (.string r) ∧ Below w.heap.size w w' := by
 have HR0 := Aside0.mk hr0
 have HC0 := Aside0.mk hc0
 clear hr0 hc0
 have HB := Aside0.mk (Below.refl w.heap.size w)
 have H : (if 0 ≤ (wrap64 ((l0.length : Int) * 4)) then (if (wrap64 ((l0.length : Int) * 4) : Int).toNat ≤ 281474976710656 then ((some (List.replicate (wrap64 ((l0.length : Int) * 4) : Int).toNat 0 : List Int)).bind fun y121 => (N1limbs_text.l0 k l0 y121 (y121.length : Int) 0)) else (none)) else (none)) = some r := h
 clear h
 obtain ⟨ji2, hji2⟩ : ∃ j_ : Int, (wrap64 ((l0.length : Int) * 4)) = j_ := ⟨_, rfl⟩
 first | rw [hji2] at H | simp only [hji2] at H
 have hji2w : (IntKind.i64.wrap ((l0.length : Int) * 4)) = ji2 := (i64_w _).trans hji2
 replace H := of_ite H
 obtain ⟨c3, H⟩ := H
 have c3b0 := eq_true c3
 have c3b1 := decide_eq_true c3
 clear c3
 replace H := of_ite H
 obtain ⟨c4, H⟩ := H
 have c4b0 := eq_true c4
 have c4b1 := decide_eq_true c4
 clear c4
 obtain ⟨y121, hy121⟩ : ∃ y_ : List Int, y_ = (List.replicate (ji2 : Int).toNat 0) := ⟨_, rfl⟩
 replace H : (N1limbs_text.l0 k l0 y121 (y121.length : Int) 0) = some r := by first | (rw [hy121]; with_reducible exact H) | (have H2_ := (Option.bind_some _ _).symm.trans H; rw [hy121]; with_reducible exact H2_) | (have H2_ := (Option.bind_some _ _).symm.trans H; with_reducible exact H2_) | with_reducible exact H | (rw [hy121]; exact H) | exact H
 have Ny121 := Aside0.mk hy121
 clear hy121
 have H' := Aside0.mk H
 clear H
 go_enter Tryd.func67, Tryd.ntmps67
 go_wp2_with (first | ((with_reducible refine gate_dst (N := 8) rfl ?_); refine Kd.R_make (Kd.int .u8) _ 5 rfl (N := 8) rfl 100 _ _ rfl ji2 rfl rfl Tryd.underlying100 (.int .u8 0) 1 info5 rfl (by decide) (by omega) 0 (ok := fun _ => True) (okp := fun _ => True) rfl (fun _ hk => hk) trivial (of_decide_eq_true zq0) (Nat.le_trans (Nat.mul_le_mul_right _ (of_decide_eq_true zq0 : ji2.toNat ≤ 281474976710656)) (by omega)) (Below.refl _ _) (Nat.le_refl _) ?_; intro v122 w5 ho6 hb hg_ hnew_; clear hg_ hnew_; (first | rw [← Ny121.out] at ho6 | (simp only [Int.reduceToNat] at ho6; rw [← Ny121.out] at ho6)); have n0_ := Aside0.mk (Kd.R_lower ho6 (below_size zH)); have n1_ := sB hb; revert n0_ n1_; clear HB; intro HO123 HB; clear hb ho6; obtain ⟨Ao7, co7, eo7⟩ := Kd.R_slice HO123.out; subst eo7))
 go_loopg [11] k (fun kq v11 w' => ∃ (x3_1 : List Int) (x11_1 : Int), v11 = .int .i64 x11_1 ∧ Aside0 (N1limbs_text.l0 kq l0 x3_1 (y121.length : Int) x11_1 = some r) ∧ Aside0 (kq ≤ k) ∧ Aside0 (Kd.R (Kd.int .u8) 5 w' w.heap.size (fun _ => True) (.slice Ao7 y121.length co7) x3_1) ∧ Aside0 (Below w.heap.size w w'))
 case atStart => exact ⟨(y121), (0), zq1, H', ⟨Nat.le_refl _⟩, ⟨by (with_reducible repeat (first | apply Kd.R_alloc | apply Kd.R_drewN | apply Kd.R_drew)); exact HO123.out⟩, ⟨zH⟩⟩
 case round =>
  clear H'
  (try clear p2); (try clear c3); (try clear c3b0); (try clear c3b1); (try clear c4); (try clear c4b0); (try clear c4b1); (try clear c6); (try clear p6)
  obtain ⟨x3_1, x11_1, rfl, HA, HK1, HO_3, HB⟩ := hrel
  have hl3_1 := (Kd.R_reads' HO_3.out).1
  rw [hl3_1] at HO_3
  (try simp only [hl3_1])
  cases gk with
  | zero => exact absurd HA.out (by simp [N1limbs_text.l0])
  | succ k1 =>
   have H := HA.out
   clear HA
   simp only [N1limbs_text.l0] at H
   by_cases c8 : x11_1 < (y121.length : Int)
   ·rw [if_pos c8] at H
    have c8b0 := decide_eq_true c8
    (try (have c8x0 := c8b0; simp only [hl3_1] at c8x0))
    clear c8
    obtain ⟨ji9, hji9⟩ : ∃ j_ : Int, (wrap64 (Int.tdiv x11_1 4)) = j_ := ⟨_, rfl⟩
    first | rw [hji9] at H | simp only [hji9] at H
    have hji9w : (IntKind.i64.wrap (Int.tdiv x11_1 4)) = ji9 := (i64_w _).trans hji9
    replace H := of_ite H
    obtain ⟨c10, H⟩ := H
    have c10b0 := decide_eq_true c10
    clear c10
    replace H := of_ite H
    obtain ⟨c11, H⟩ := H
    have c11b0 := decide_eq_true c11
    (try (have c11x0 := c11b0; simp only [hl3_1] at c11x0))
    clear c11
    obtain ⟨ji12, hji12⟩ : ∃ j_ : Int, (wrap64 (8 * (Int.tmod x11_1 4))) = j_ := ⟨_, rfl⟩
    first | rw [hji12] at H | simp only [hji12] at H
    have hji12w : (IntKind.i64.wrap (8 * (Int.tmod x11_1 4))) = ji12 := (i64_w _).trans hji12
    replace H := of_ite H
    obtain ⟨c13, H⟩ := H
    have c13b0 := eq_true c13
    have c13b1 := decide_eq_true c13
    clear c13
    replace H := of_ite H
    obtain ⟨c14, H⟩ := H
    have c14b0 := eq_true c14
    have c14b1 := decide_eq_true c14
    clear c14
    obtain ⟨ji15, hji15⟩ : ∃ j_ : Int, (wrap64 ((wrap64 ((x3_1.length : Int) - 1)) - x11_1)) = j_ := ⟨_, rfl⟩
    first | rw [hji15] at H | simp only [hji15] at H
    have hji15w : (IntKind.i64.wrap ((wrap64 ((x3_1.length : Int) - 1)) - x11_1)) = ji15 := (i64_w _).trans hji15
    replace H := of_ite H
    obtain ⟨c16, H⟩ := H
    have c16b0 := decide_eq_true c16
    clear c16
    replace H := of_ite H
    obtain ⟨c17, H⟩ := H
    have c17b0 := decide_eq_true c17
    (try (have c17x0 := c17b0; simp only [hl3_1] at c17x0))
    clear c17
    obtain ⟨y125, hy125⟩ : ∃ y_ : List Int, y_ = (x3_1.set ((ji15) : Int).toNat (((rd l0 (ji9)) / 2 ^ (ji12).toNat) % 256)) := ⟨_, rfl⟩
    replace H : (N1limbs_text.l0 k1 l0 y125 (y121.length : Int) (wrap64 (x11_1 + 1))) = some r := by first | (rw [hy125]; with_reducible exact H) | (have H2_ := (Option.bind_some _ _).symm.trans H; rw [hy125]; with_reducible exact H2_) | (have H2_ := (Option.bind_some _ _).symm.trans H; with_reducible exact H2_) | with_reducible exact H | (rw [hy125]; exact H) | exact H
    have Ny125 := Aside0.mk hy125
    clear hy125
    have H' := Aside0.mk H
    clear H
    have p124 : 0 ≤ ((ji9) : Int) := of_decide_eq_true zq0
    have q124 : (ji9) < (l0.length : Int) := of_decide_eq_true zq0
    obtain ⟨ad124, e124, hx124_0⟩ := Kd.at_int HR0.out (ji9) p124 q124
    cases e124
    (try replace hx124_0 := (HB.out.cell (World.block_lt_of_cell? w _ hx124_0)).trans hx124_0)
    replace p124 := eq_true p124
    replace q124 := eq_true q124
    have p18 : 0 ≤ ((ji15) : Int) := of_decide_eq_true zq0
    have q18 : ((ji15) : Int) < ((x3_1.length : Int) : Int) := of_decide_eq_true zq0
    obtain ⟨go18, co18, eo18, gb18, gl18, cl18, HG18⟩ := Kd.R_form HO_3.out (by omega)
    (first | cases eo18 | (injection eo18 with ea_ en_ ec_; (first | subst ea_ | (injection ea_ with ea_; subst ea_)); subst ec_; clear en_))
    have GB18 := Aside0.mk gb18
    have GG18 := Aside0.mk HG18
    clear gb18 gl18 HG18
    obtain ⟨hx18_0, hf18_0⟩ := Kd.R_celln 0 HO_3.out ((ji15) : Int) p18 q18
    (try simp only [Go.IntWalk.toNatUp] at hx18_0 hf18_0)
    replace p18 := eq_true p18
    replace q18 := eq_true q18
    have HP19 := Kd.R_putg HO_3.out ((ji15) : Int) (((rd l0 (ji9)) / 2 ^ (ji12).toNat) % 256)
    go_wp2_with (first | ((with_reducible refine gate_store (t := 5) (p := 30) rfl ?_); refine store_event (t := 5) (p := 30) (v := ?vo_w20) (w1 := (wr.setCell ⟨go18, ((ji15) : Int).toNat, none⟩ (.int .u8 (((rd l0 (ji9)) / 2 ^ (ji12).toNat) % 256)))) ?hg ?ho ?hn ?hr ?_; (case ho => rfl); (case hg => rfl); (case hn => rfl); (case hr => first | (go_simp; done) | (go_simp; rfl)); intro w20 hw; have hg : wr.grownBy w20 (some go18) := (by rw [hw]; exact HP19.2); have hp_ : Kd.R (Kd.int .u8) 5 w20 w.heap.size (fun _ => True) (.slice (some ⟨go18, 0, none⟩) x3_1.length co7) y125 := (by rw [hw, Ny125.out]; exact HP19.1); clear HP19; have n0_ := Aside0.mk (hp_); have n1_ := Aside0.mk ((by rw [hw]; exact below_set (HB.out) GB18.out : Below w.heap.size w w20)); revert n0_ n1_; clear HO_3 HB; intro HO_3 HB; clear hg hw hp_))
    (try simp only [← hl3_1])
    go_roundg k1
    case measure => have := HK1.out; omega
    case rel => exact ⟨(y125), (wrap64 (x11_1 + 1)), zq1, H', ⟨by have := HK1.out; omega⟩, ⟨by (try simp only [hl3_1]); (with_reducible repeat (first | apply Kd.R_alloc | apply Kd.R_drewN | apply Kd.R_drew)); exact HO_3.out⟩, ⟨zH⟩⟩
   ·rw [if_neg c8] at H
    have c8b0 := decide_eq_false c8
    (try (have c8x0 := c8b0; simp only [hl3_1] at c8x0))
    clear c8
    replace H := Option.bind_eq_some_iff.mp H
    obtain ⟨t126, A210, H⟩ := H
    (try dsimp only at H)
    have A21 := Aside0.mk A210
    clear A210
    obtain rfl := Option.some.inj H
    have hcv22 := own_string (P := Tryd.prog) Tryd.underlying100 Tryd.underlying5 Tryd.underlying9 (Kd.own_of_R HO_3.out)
    go_wp2_with (first | (refine goesLA 34 Tryd.func63 #[.string (strOfNums x3_1)] ?_; (with_reducible refine (N1Normalize.calls k1 (strOfNums x3_1) t126 _ A21.out).mono ?_); rintro e w' ⟨rfl, ⟨nd, rfl⟩⟩; refine ⟨_, rfl, ?_⟩))
    go_ret
    exact ⟨by first | rfl | (simp [errW_none, errW_some] <;> rfl) | (simp only [← hji2]; first | rfl | (simp [errW_none, errW_some] <;> rfl)) | (simp [*, errW_none, errW_some] <;> rfl), zH⟩
def N1sign.f (a0 : Int) : Option (Int) := if a0 < 0 then (some (-1)) else (if a0 > 0 then (some 1) else (some 0))
set_option maxHeartbeats 8000000 in
set_option maxRecDepth 100000 in
theorem N1sign.calls (a0 : Int) (r : Int) (w : World) (h : N1sign.f a0 = some r) :
 Calls Tryd.prog 72 #[.int .i64 a0] w fun e w' => e = .returned (.int .i64 r) ∧ Drawn0 w w' := by
 have H : (if a0 < 0 then (some (-1)) else (if a0 > 0 then (some 1) else (some 0))) = some r := h
 clear h
 by_cases c2 : a0 < 0
 ·rw [if_pos c2] at H
  have c2b0 := decide_eq_true c2
  clear c2
  obtain rfl := Option.some.inj H
  go_enter Tryd.func72, Tryd.ntmps72
  go_wp2
  go_ret
  exact ⟨by first | rfl | (simp; done) | (simp [*]; done), by repeat (first | exact Drawn0.refl _ | apply Drawn0.step)⟩
 ·rw [if_neg c2] at H
  have c2b0 := decide_eq_false c2
  clear c2
  by_cases c3 : a0 > 0
  ·rw [if_pos c3] at H
   have c3b0 := decide_eq_true c3
   clear c3
   obtain rfl := Option.some.inj H
   go_enter Tryd.func72, Tryd.ntmps72
   go_wp2
   go_ret
   exact ⟨by first | rfl | (simp; done) | (simp [*]; done), by repeat (first | exact Drawn0.refl _ | apply Drawn0.step)⟩
  ·rw [if_neg c3] at H
   have c3b0 := decide_eq_false c3
   clear c3
   obtain rfl := Option.some.inj H
   go_enter Tryd.func72, Tryd.ntmps72
   go_wp2
   go_ret
   exact ⟨by first | rfl | (simp; done) | (simp [*]; done), by repeat (first | exact Drawn0.refl _ | apply Drawn0.step)⟩
def N1compare.l0 : Nat → List Int → List Int → Int → Option (Int)
 | 0, _, _, _ => none
 | k + 1, x0, x1, x5 => if x5 ≥ 0 then (if 0 ≤ x5 then (if x5 < (x0.length : Int) then (if x5 < (x1.length : Int) then (if (rd x0 x5) = (rd x1 x5) then (N1compare.l0 k x0 x1 (wrap64 (x5 - 1))) else (if (rd x0 x5) < (rd x1 x5) then (some (-1)) else (some 1))) else (none)) else (none)) else (none)) else (some 0)
def N1compare.f (k : Nat) (l0 : List Int) (l1 : List Int) : Option (Int) := if (l0.length : Int) = (l1.length : Int) then (N1compare.l0 k l0 l1 (wrap64 ((l0.length : Int) - 1))) else ((N1sign.f (wrap64 ((l0.length : Int) - (l1.length : Int)))).bind fun t127 => (some t127))
set_option maxHeartbeats 8000000 in
set_option maxRecDepth 100000 in
theorem N1compare.calls (k : Nat) (A0 : Option Addr) (c0 : Nat) (l0 : List Int) (A1 : Option Addr) (c1 : Nat) (l1 : List Int) (r : Int) (w : World) (hr0 : Kd.C (Kd.int .u32) w A0 l0.length l0) (hc0 : l0.length ≤ c0) (hr1 : Kd.C (Kd.int .u32) w A1 l1.length l1) (hc1 : l1.length ≤ c1) (h : N1compare.f k l0 l1 = some r) :
 Calls Tryd.prog 88 #[.slice A0 l0.length c0, .slice A1 l1.length c1] w fun e w' => e = .returned (.int .i64 r) ∧ Drawn0 w w' := by
 have HR0 := Aside0.mk hr0
 have HC0 := Aside0.mk hc0
 clear hr0 hc0
 have HR1 := Aside0.mk hr1
 have HC1 := Aside0.mk hc1
 clear hr1 hc1
 have H : (if (l0.length : Int) = (l1.length : Int) then (N1compare.l0 k l0 l1 (wrap64 ((l0.length : Int) - 1))) else ((N1sign.f (wrap64 ((l0.length : Int) - (l1.length : Int)))).bind fun t127 => (some t127))) = some r := h
 clear h
 by_cases c3 : (l0.length : Int) = (l1.length : Int)
 ·rw [if_pos c3] at H
  have c3b0 := beq_iff_eq.mpr c3
  have c3b1 : ((l0.length : Int) != (l1.length : Int)) = false := bne_eq_false_iff_eq.mpr c3
  have c3b2 : (l0.length == l1.length) = true := by first | simpa using c3 | (simp at c3 ⊢; omega)
  clear c3
  have H' := Aside0.mk H
  clear H
  go_enter Tryd.func88, Tryd.ntmps88
  go_wp2
  repeat (go_quiet (fail); try go_wp2)
  go_loopg [5] k (fun kq v5 w' => ∃ (x5_1 : Int), v5 = .int .i64 x5_1 ∧ Aside0 (N1compare.l0 kq l0 l1 x5_1 = some r) ∧ Aside0 (kq ≤ k) ∧ Drawn0 w w')
  case atStart => exact ⟨(wrap64 ((l0.length : Int) - 1)), zq1, H', ⟨Nat.le_refl _⟩, by repeat (first | exact Drawn0.refl _ | apply Drawn0.step)⟩
  case round =>
   clear H'
   (try clear c1); (try clear p2); (try clear c3); (try clear c3b0); (try clear c3b1); (try clear c3b2)
   obtain ⟨x5_1, rfl, HA, HK1, ⟨m1, rfl⟩⟩ := hrel
   cases gk with
   | zero => exact absurd HA.out (by simp [N1compare.l0])
   | succ k1 =>
    have H := HA.out
    clear HA
    simp only [N1compare.l0] at H
    by_cases c4 : x5_1 ≥ 0
    ·rw [if_pos c4] at H
     have c4b0 := decide_eq_true c4
     clear c4
     replace H := of_ite H
     obtain ⟨c5, H⟩ := H
     have c5b0 := decide_eq_true c5
     clear c5
     replace H := of_ite H
     obtain ⟨c6, H⟩ := H
     have c6b0 := decide_eq_true c6
     clear c6
     replace H := of_ite H
     obtain ⟨c7, H⟩ := H
     have c7b0 := decide_eq_true c7
     clear c7
     by_cases c8 : (rd l0 x5_1) = (rd l1 x5_1)
     ·rw [if_pos c8] at H
      have c8b0 := beq_iff_eq.mpr c8
      have c8b1 : ((rd l0 x5_1) != (rd l1 x5_1)) = false := bne_eq_false_iff_eq.mpr c8
      clear c8
      have H' := Aside0.mk H
      clear H
      have p128 : 0 ≤ (x5_1 : Int) := of_decide_eq_true zq0
      have q128 : x5_1 < (l0.length : Int) := of_decide_eq_true zq0
      obtain ⟨ad128, e128, hx128_0⟩ := Kd.at_int HR0.out x5_1 p128 q128
      cases e128
      replace p128 := eq_true p128
      replace q128 := eq_true q128
      have p129 : 0 ≤ (x5_1 : Int) := of_decide_eq_true zq0
      have q129 : x5_1 < (l1.length : Int) := of_decide_eq_true zq0
      obtain ⟨ad129, e129, hx129_0⟩ := Kd.at_int HR1.out x5_1 p129 q129
      cases e129
      replace p129 := eq_true p129
      replace q129 := eq_true q129
      go_wp2
      repeat (go_quiet (fail); try go_wp2)
      go_roundg k1
      case measure => have := HK1.out; omega
      case rel => exact ⟨(wrap64 (x5_1 - 1)), zq1, H', ⟨by have := HK1.out; omega⟩, by repeat (first | exact Drawn0.refl _ | apply Drawn0.step)⟩
     ·rw [if_neg c8] at H
      have c8b0 := beq_eq_false_iff_ne.mpr c8
      have c8b1 := bne_iff_ne.mpr c8
      by_cases c9 : (rd l0 x5_1) < (rd l1 x5_1)
      ·rw [if_pos c9] at H
       have c9b0 := decide_eq_true c9
       clear c9
       obtain rfl := Option.some.inj H
       have p128 : 0 ≤ (x5_1 : Int) := of_decide_eq_true zq0
       have q128 : x5_1 < (l0.length : Int) := of_decide_eq_true zq0
       obtain ⟨ad128, e128, hx128_0⟩ := Kd.at_int HR0.out x5_1 p128 q128
       cases e128
       replace p128 := eq_true p128
       replace q128 := eq_true q128
       have p129 : 0 ≤ (x5_1 : Int) := of_decide_eq_true zq0
       have q129 : x5_1 < (l1.length : Int) := of_decide_eq_true zq0
       obtain ⟨ad129, e129, hx129_0⟩ := Kd.at_int HR1.out x5_1 p129 q129
       cases e129
       replace p129 := eq_true p129
       replace q129 := eq_true q129
       have p130 : 0 ≤ (x5_1 : Int) := of_decide_eq_true zq0
       have q130 : x5_1 < (l0.length : Int) := of_decide_eq_true zq0
       obtain ⟨ad130, e130, hx130_0⟩ := Kd.at_int HR0.out x5_1 p130 q130
       obtain rfl : ad128 = ad130 := (by injection e130)
       replace p130 := eq_true p130
       replace q130 := eq_true q130
       have p131 : 0 ≤ (x5_1 : Int) := of_decide_eq_true zq0
       have q131 : x5_1 < (l1.length : Int) := of_decide_eq_true zq0
       obtain ⟨ad131, e131, hx131_0⟩ := Kd.at_int HR1.out x5_1 p131 q131
       obtain rfl : ad129 = ad131 := (by injection e131)
       replace p131 := eq_true p131
       replace q131 := eq_true q131
       go_wp2
       repeat (go_quiet (fail); try go_wp2)
       go_ret
       exact ⟨by first | rfl | (simp; done) | (simp [*]; done), by repeat (first | exact Drawn0.refl _ | apply Drawn0.step)⟩
      ·rw [if_neg c9] at H
       have c9b0 := decide_eq_false c9
       clear c9
       obtain rfl := Option.some.inj H
       have p128 : 0 ≤ (x5_1 : Int) := of_decide_eq_true zq0
       have q128 : x5_1 < (l0.length : Int) := of_decide_eq_true zq0
       obtain ⟨ad128, e128, hx128_0⟩ := Kd.at_int HR0.out x5_1 p128 q128
       cases e128
       replace p128 := eq_true p128
       replace q128 := eq_true q128
       have p129 : 0 ≤ (x5_1 : Int) := of_decide_eq_true zq0
       have q129 : x5_1 < (l1.length : Int) := of_decide_eq_true zq0
       obtain ⟨ad129, e129, hx129_0⟩ := Kd.at_int HR1.out x5_1 p129 q129
       cases e129
       replace p129 := eq_true p129
       replace q129 := eq_true q129
       have p130 : 0 ≤ (x5_1 : Int) := of_decide_eq_true zq0
       have q130 : x5_1 < (l0.length : Int) := of_decide_eq_true zq0
       obtain ⟨ad130, e130, hx130_0⟩ := Kd.at_int HR0.out x5_1 p130 q130
       obtain rfl : ad128 = ad130 := (by injection e130)
       replace p130 := eq_true p130
       replace q130 := eq_true q130
       have p131 : 0 ≤ (x5_1 : Int) := of_decide_eq_true zq0
       have q131 : x5_1 < (l1.length : Int) := of_decide_eq_true zq0
       obtain ⟨ad131, e131, hx131_0⟩ := Kd.at_int HR1.out x5_1 p131 q131
       obtain rfl : ad129 = ad131 := (by injection e131)
       replace p131 := eq_true p131
       replace q131 := eq_true q131
       go_wp2
       repeat (go_quiet (fail); try go_wp2)
       go_ret
       exact ⟨by first | rfl | (simp; done) | (simp [*]; done), by repeat (first | exact Drawn0.refl _ | apply Drawn0.step)⟩
    ·rw [if_neg c4] at H
     have c4b0 := decide_eq_false c4
     clear c4
     obtain rfl := Option.some.inj H
     go_wp2
     repeat (go_quiet (fail); try go_wp2)
     go_ret
     exact ⟨by first | rfl | (simp; done) | (simp [*]; done), by repeat (first | exact Drawn0.refl _ | apply Drawn0.step)⟩
 ·rw [if_neg c3] at H
  have c3b0 := beq_eq_false_iff_ne.mpr c3
  have c3b1 := bne_iff_ne.mpr c3
  have c3b2 : (l0.length == l1.length) = false := by first | simpa using c3 | (simp at c3 ⊢; omega)
  replace H := Option.bind_eq_some_iff.mp H
  obtain ⟨t127, A100, H⟩ := H
  (try dsimp only at H)
  have A10 := Aside0.mk A100
  clear A100
  obtain rfl := Option.some.inj H
  go_enter Tryd.func88, Tryd.ntmps88
  go_wp2_with (first | (go_at_call 72; (with_reducible refine (N1sign.calls (wrap64 ((l0.length : Int) - (l1.length : Int))) t127 _ A10.out).mono ?_); rintro e w' ⟨rfl, ⟨nd, rfl⟩⟩; (try first | exact ⟨rfl, _, World.drewN_drewN _ _ _⟩ | exact ⟨rfl, _, Eq.trans (World.drewN_drewN _ _ _) (congrArg (World.drewN _) (Nat.add_assoc _ _ _))⟩)))
  repeat (go_quiet (first | (go_at_call 72; (with_reducible refine (N1sign.calls (wrap64 ((l0.length : Int) - (l1.length : Int))) t127 _ A10.out).mono ?_); rintro e w' ⟨rfl, ⟨nd, rfl⟩⟩; (try first | exact ⟨rfl, _, World.drewN_drewN _ _ _⟩ | exact ⟨rfl, _, Eq.trans (World.drewN_drewN _ _ _) (congrArg (World.drewN _) (Nat.add_assoc _ _ _))⟩))); try go_wp2_with (first | (go_at_call 72; (with_reducible refine (N1sign.calls (wrap64 ((l0.length : Int) - (l1.length : Int))) t127 _ A10.out).mono ?_); rintro e w' ⟨rfl, ⟨nd, rfl⟩⟩; (try first | exact ⟨rfl, _, World.drewN_drewN _ _ _⟩ | exact ⟨rfl, _, Eq.trans (World.drewN_drewN _ _ _) (congrArg (World.drewN _) (Nat.add_assoc _ _ _))⟩))))
  go_ret
  exact ⟨by first | rfl | (simp; done) | (simp [*]; done), by repeat (first | exact Drawn0.refl _ | apply Drawn0.step)⟩
def N1divideSmall.l0 : Nat → List Int → Int → List Int → Int → Int → Option (List Int × Int)
 | 0, _, _, _, _, _ => none
 | k + 1, x0, x1, x6, x7, x8 => if x8 ≥ 0 then (if 0 ≤ x8 then (if x8 < (x0.length : Int) then (if (IntKind.u64.wrap (x1)) = 0 then (none) else (if x8 < (x6.length : Int) then (N1divideSmall.l0 k x0 x1 (x6.set (x8 : Int).toNat ((IntKind.u64.wrap (Int.tdiv (Go.bits .or .u64 (IntKind.u64.wrap (x7 * 4294967296)) (IntKind.u64.wrap (rd x0 x8))) (IntKind.u64.wrap (x1)))) % 4294967296)) (Int.tmod (Go.bits .or .u64 (IntKind.u64.wrap (x7 * 4294967296)) (IntKind.u64.wrap (rd x0 x8))) (IntKind.u64.wrap (x1))) (wrap64 (x8 - 1))) else (none))) else (none)) else (none)) else ((N1limbs_trim.f k x6).bind fun t137 => (some (t137, (x7) % 4294967296)))
def N1divideSmall.f (k : Nat) (l0 : List Int) (a1 : Int) : Option (List Int × Int) := if 0 ≤ (l0.length : Int) then (if ((l0.length : Int) : Int).toNat ≤ 70368744177664 then (N1divideSmall.l0 k l0 a1 (List.replicate ((l0.length : Int) : Int).toNat 0) 0 (wrap64 ((l0.length : Int) - 1))) else (none)) else (none)
set_option maxHeartbeats 8000000 in
set_option maxRecDepth 100000 in
theorem N1divideSmall.calls (k : Nat) (A0 : Option Addr) (c0 : Nat) (l0 : List Int) (a1 : Int) (r1 : List Int) (r2 : Int) (w : World) (hr0 : Kd.C (Kd.int .u32) w A0 l0.length l0) (hc0 : l0.length ≤ c0) (h : N1divideSmall.f k l0 a1 = some (r1, r2)) :
 Calls Tryd.prog 97 #[.slice A0 l0.length c0, .int .u32 a1] w fun e w' => ∃ v0_ : Value, e = .returned (.tuple #[v0_, .int .u32 r2]) ∧ Kd.V (Kd.int .u32) 86 w' w.heap.size (fun k_ => (w.heap.size ≤ k_)) v0_ r1 ∧ Below w.heap.size w w' := by
 have HR0 := Aside0.mk hr0
 have HC0 := Aside0.mk hc0
 clear hr0 hc0
 have HB := Aside0.mk (Below.refl w.heap.size w)
 have H : (if 0 ≤ (l0.length : Int) then (if ((l0.length : Int) : Int).toNat ≤ 70368744177664 then (N1divideSmall.l0 k l0 a1 (List.replicate ((l0.length : Int) : Int).toNat 0) 0 (wrap64 ((l0.length : Int) - 1))) else (none)) else (none)) = some (r1, r2) := h
 clear h
 replace H := of_ite H
 obtain ⟨c3, H⟩ := H
 have c3b0 := eq_true c3
 have c3b1 := decide_eq_true c3
 clear c3
 replace H := of_ite H
 obtain ⟨c4, H⟩ := H
 have c4b0 := eq_true c4
 have c4b1 := decide_eq_true c4
 clear c4
 obtain ⟨y132, hy132⟩ : ∃ y_ : List Int, y_ = (List.replicate ((l0.length : Int) : Int).toNat 0) := ⟨_, rfl⟩
 replace H : (N1divideSmall.l0 k l0 a1 y132 0 (wrap64 ((l0.length : Int) - 1))) = some (r1, r2) := by first | (rw [hy132]; with_reducible exact H) | (have H2_ := (Option.bind_some _ _).symm.trans H; rw [hy132]; with_reducible exact H2_) | (have H2_ := (Option.bind_some _ _).symm.trans H; with_reducible exact H2_) | with_reducible exact H | (rw [hy132]; exact H) | exact H
 have Ny132 := Aside0.mk hy132
 clear hy132
 have H' := Aside0.mk H
 clear H
 go_enter Tryd.func97, Tryd.ntmps97
 go_wp2_with (first | ((with_reducible refine gate_dst (N := 12) rfl ?_); refine Kd.R_make (Kd.int .u32) _ 86 rfl (N := 12) rfl 84 _ _ rfl (l0.length : Int) rfl rfl Tryd.underlying84 (.int .u32 0) 4 info86 rfl (by decide) (by omega) 0 (ok := fun _ => True) (okp := fun _ => True) rfl (fun _ hk => hk) trivial (of_decide_eq_true zq0) (Nat.le_trans (Nat.mul_le_mul_right _ (of_decide_eq_true zq0 : (l0.length : Int).toNat ≤ 70368744177664)) (by omega)) (Below.refl _ _) (Nat.le_refl _) ?_; intro v133 w5 ho6 hb hg_ hnew_; clear hg_ hnew_; (first | rw [← Ny132.out] at ho6 | (simp only [Int.reduceToNat] at ho6; rw [← Ny132.out] at ho6)); have n0_ := Aside0.mk (Kd.R_lower (Kd.R_newM (M := fun k_ => (w.heap.size ≤ k_)) ho6 (below_size zH) (fun k_ h_ => h_)) (below_size zH)); have n1_ := sB hb; revert n0_ n1_; clear HB; intro HO134 HB; clear hb ho6))
 go_loopg [7, 8] k (fun kq v7 v8 w' => ∃ (x6_1 : List Int) (x7_1 : Int) (x8_1 : Int), v7 = .int .u64 x7_1 ∧ v8 = .int .i64 x8_1 ∧ Aside0 (N1divideSmall.l0 kq l0 a1 x6_1 x7_1 x8_1 = some (r1, r2)) ∧ Aside0 (kq ≤ k) ∧ Aside0 (Kd.R (Kd.int .u32) 86 w' w.heap.size (fun k_ => (w.heap.size ≤ k_)) v133 x6_1) ∧ Aside0 (Below w.heap.size w w'))
 case atStart => exact ⟨(y132), (0), (wrap64 ((l0.length : Int) - 1)), zq1, zq1, H', ⟨Nat.le_refl _⟩, ⟨by (with_reducible repeat (first | apply Kd.R_alloc | apply Kd.R_drewN | apply Kd.R_drew)); exact Kd.R_mono HO134.out (fun _ hk => hk.1)⟩, ⟨zH⟩⟩
 case round =>
  clear H'
  (try clear p2); (try clear c3); (try clear c3b0); (try clear c3b1); (try clear c4); (try clear c4b0); (try clear c4b1); (try clear p6)
  obtain ⟨x6_1, x7_1, x8_1, rfl, rfl, HA, HK1, HO_6, HB⟩ := hrel
  cases gk with
  | zero => exact absurd HA.out (by simp [N1divideSmall.l0])
  | succ k1 =>
   have H := HA.out
   clear HA
   simp only [N1divideSmall.l0] at H
   by_cases c7 : x8_1 ≥ 0
   ·rw [if_pos c7] at H
    have c7b0 := decide_eq_true c7
    clear c7
    replace H := of_ite H
    obtain ⟨c8, H⟩ := H
    have c8b0 := decide_eq_true c8
    clear c8
    replace H := of_ite H
    obtain ⟨c9, H⟩ := H
    have c9b0 := decide_eq_true c9
    clear c9
    by_cases c10 : (IntKind.u64.wrap (a1)) = 0
    ·rw [if_pos c10] at H
     exact absurd H (by simp)
    ·rw [if_neg c10] at H
     have c10b0 := beq_eq_false_iff_ne.mpr c10
     have c10b1 := bne_iff_ne.mpr c10
     replace H := of_ite H
     obtain ⟨c11, H⟩ := H
     have c11b0 := decide_eq_true c11
     clear c11
     obtain ⟨y136, hy136⟩ : ∃ y_ : List Int, y_ = (x6_1.set (x8_1 : Int).toNat ((IntKind.u64.wrap (Int.tdiv (Go.bits .or .u64 (IntKind.u64.wrap (x7_1 * 4294967296)) (IntKind.u64.wrap (rd l0 x8_1))) (IntKind.u64.wrap (a1)))) % 4294967296)) := ⟨_, rfl⟩
     replace H : (N1divideSmall.l0 k1 l0 a1 y136 (Int.tmod (Go.bits .or .u64 (IntKind.u64.wrap (x7_1 * 4294967296)) (IntKind.u64.wrap (rd l0 x8_1))) (IntKind.u64.wrap (a1))) (wrap64 (x8_1 - 1))) = some (r1, r2) := by first | (rw [hy136]; with_reducible exact H) | (have H2_ := (Option.bind_some _ _).symm.trans H; rw [hy136]; with_reducible exact H2_) | (have H2_ := (Option.bind_some _ _).symm.trans H; with_reducible exact H2_) | with_reducible exact H | (rw [hy136]; exact H) | exact H
     have Ny136 := Aside0.mk hy136
     clear hy136
     have H' := Aside0.mk H
     clear H
     have p135 : 0 ≤ (x8_1 : Int) := of_decide_eq_true zq0
     have q135 : x8_1 < (l0.length : Int) := of_decide_eq_true zq0
     obtain ⟨ad135, e135, hx135_0⟩ := Kd.at_int HR0.out x8_1 p135 q135
     cases e135
     (try replace hx135_0 := (HB.out.cell (World.block_lt_of_cell? w _ hx135_0)).trans hx135_0)
     replace p135 := eq_true p135
     replace q135 := eq_true q135
     have p12 : 0 ≤ (x8_1 : Int) := of_decide_eq_true zq0
     have q12 : (x8_1 : Int) < ((x6_1.length : Int) : Int) := of_decide_eq_true zq0
     obtain ⟨go12, co12, eo12, gb12, gl12, cl12, HG12⟩ := Kd.R_form HO_6.out (by omega)
     (first | cases eo12 | (injection eo12 with ea_ en_ ec_; (first | subst ea_ | (injection ea_ with ea_; subst ea_)); subst ec_; clear en_))
     have GB12 := Aside0.mk gb12
     have GG12 := Aside0.mk HG12
     clear gb12 gl12 HG12
     obtain ⟨hx12_0, hf12_0⟩ := Kd.R_celln 0 HO_6.out (x8_1 : Int) p12 q12
     (try simp only [Go.IntWalk.toNatUp] at hx12_0 hf12_0)
     replace p12 := eq_true p12
     replace q12 := eq_true q12
     have HP13 := Kd.R_putg HO_6.out (x8_1 : Int) ((IntKind.u64.wrap (Int.tdiv (Go.bits .or .u64 (IntKind.u64.wrap (x7_1 * 4294967296)) (IntKind.u64.wrap (rd l0 x8_1))) (IntKind.u64.wrap (a1)))) % 4294967296)
     go_wp2_with (first | ((with_reducible refine gate_store (t := 86) (p := 35) rfl ?_); refine store_event (t := 86) (p := 35) (v := ?vo_w14) (w1 := (wr.setCell ⟨go12, (x8_1 : Int).toNat, none⟩ (.int .u32 ((IntKind.u64.wrap (Int.tdiv (Go.bits .or .u64 (IntKind.u64.wrap (x7_1 * 4294967296)) (IntKind.u64.wrap (rd l0 x8_1))) (IntKind.u64.wrap (a1)))) % 4294967296)))) ?hg ?ho ?hn ?hr ?_; (case ho => rfl); (case hg => rfl); (case hn => rfl); (case hr => first | (go_simp; done) | (go_simp; rfl)); intro w14 hw; have hg : wr.grownBy w14 (some go12) := (by rw [hw]; exact HP13.2); have hp_ : Kd.R (Kd.int .u32) 86 w14 w.heap.size (fun k_ => (w.heap.size ≤ k_)) (.slice (some ⟨go12, 0, none⟩) x6_1.length co12) y136 := (by rw [hw, Ny136.out]; exact HP13.1); clear HP13; have n0_ := Aside0.mk (hp_); have n1_ := Aside0.mk ((by rw [hw]; exact below_set (HB.out) GB12.out : Below w.heap.size w w14)); revert n0_ n1_; clear HO_6 HB; intro HO_6 HB; clear hg hw hp_))
     go_roundg k1
     case measure => have := HK1.out; omega
     case rel => exact ⟨(y136), (Int.tmod (Go.bits .or .u64 (IntKind.u64.wrap (x7_1 * 4294967296)) (IntKind.u64.wrap (rd l0 x8_1))) (IntKind.u64.wrap (a1))), (wrap64 (x8_1 - 1)), zq1, zq1, H', ⟨by have := HK1.out; omega⟩, ⟨by (with_reducible repeat (first | apply Kd.R_alloc | apply Kd.R_drewN | apply Kd.R_drew)); exact HO_6.out⟩, ⟨zH⟩⟩
   ·rw [if_neg c7] at H
    have c7b0 := decide_eq_false c7
    clear c7
    replace H := Option.bind_eq_some_iff.mp H
    obtain ⟨t137, A150, H⟩ := H
    (try dsimp only at H)
    have A15 := Aside0.mk A150
    clear A150
    simp only [Option.some.injEq, Prod.mk.injEq] at H
    obtain ⟨rfl, rfl⟩ := H
    obtain ⟨Ao16, co16, eo16⟩ := Kd.R_slice HO_6.out
    subst eo16
    go_wp2_with (first | (refine goesLA 41 Tryd.func86 #[.slice Ao16 x6_1.length co16] ?_; (with_reducible refine (N1limbs_trim.calls k1 (fun k_ => some k_ = (.slice Ao16 x6_1.length co16 : Value).ownBlock) _ _ x6_1 t137 _ ?side1 A15.out).mono ?_); (case side1 => exact Kd.R_V (Kd.R_tight rfl (HO_6.out))); rintro e w17 ⟨v138, rfl, ho0, hb⟩; refine ⟨_, rfl, ?_⟩; have n0_ := Aside0.mk (Kd.R_below (by (with_reducible repeat (first | apply Kd.R_alloc | apply Kd.R_drewN | apply Kd.R_drew)); exact HO_6.out) hb); have n1_ := Aside0.mk (Kd.V_lower (Kd.V_mono (ok' := fun k_ => (w.heap.size ≤ k_)) ho0 (fun k_ hk_ => Or.elim hk_ (fun hs_ => ((HO_6.out).1 k_ hs_.symm)) (fun hn_ => (Nat.le_trans (below_size zH) hn_)))) (below_size zH)); have n2_ := sB hb; revert n0_ n1_ n2_; clear HO_6 HB; intro HO_6 HO139 HB; (try clear hb); (try clear hb2); (try clear hk); (try clear hi); (try clear ho0)))
    go_ret2
    exact ⟨_, zE, by (with_reducible repeat (first | apply Kd.V_alloc | apply Kd.V_drewN | apply Kd.V_drew)); exact HO139.out, zH⟩
def bits_LeadingZeros32.f (a0 : Int) : Option (Int) := if 0 ≤ a0 ∧ a0 ≤ 4294967295 then (some (32 - (Lib.bitLen a0.toNat : Int))) else (none)
theorem bits_LeadingZeros32.calls (a0 : Int) (r : Int) (w : World) (h : bits_LeadingZeros32.f a0 = some r) :
 Calls Tryd.prog 98 #[.int .u32 a0] w fun e w' => e = .returned (.int .i64 r) ∧ Drawn0 w w' := by
 unfold bits_LeadingZeros32.f at h
 split at h
 ·rename_i h1
  obtain rfl := Option.some.inj h
  refine (Tryd.bits_LeadingZeros32 a0 w h1.1 h1.2).mono ?_
  rintro e w' ⟨rfl, rfl⟩
  exact ⟨rfl, Drawn0.refl _⟩
 ·cases h
def N1shift.l0 : Nat → Int → Int → List Int → List Int → Int → Int → Option (List Int)
 | 0, _, _, _, _, _, _ => none
 | k + 1, x1, x2, x7, x13, x14, x15 => if x15 < x14 then (if 0 ≤ x15 then (if x15 < (x13.length : Int) then (if 0 ≤ x1 then (if x1 ≤ 64 then (if x15 < (x7.length : Int) then ((some (x7.set (x15 : Int).toNat (Go.bits .or .u32 (rd x7 x15) ((IntKind.u64.wrap ((IntKind.u64.wrap (rd x13 x15)) * 2 ^ x1.toNat)) % 4294967296)) : List Int)).bind fun y145 => (if (wrap64 (x15 + 1)) < x2 then (if 0 ≤ (wrap64 (x15 + 1)) then (if (wrap64 (x15 + 1)) < (x7.length : Int) then (N1shift.l0 k x1 x2 (y145.set ((wrap64 (x15 + 1)) : Int).toNat (Go.bits .or .u32 (rd y145 (wrap64 (x15 + 1))) (((IntKind.u64.wrap ((IntKind.u64.wrap (rd x13 x15)) * 2 ^ x1.toNat)) / 4294967296) % 4294967296))) x13 x14 (wrap64 (x15 + 1))) else (none)) else (none)) else (N1shift.l0 k x1 x2 y145 x13 x14 (wrap64 (x15 + 1))))) else (none)) else (none)) else (none)) else (none)) else (none)) else (some x7)
def N1shift.f (k : Nat) (l0 : List Int) (a1 : Int) (a2 : Int) : Option (List Int) := if 0 ≤ a2 then (if (a2 : Int).toNat ≤ 70368744177664 then (N1shift.l0 k a1 a2 (List.replicate (a2 : Int).toNat 0) l0 (l0.length : Int) 0) else (none)) else (none)
set_option maxHeartbeats 8000000 in
set_option maxRecDepth 100000 in
theorem N1shift.calls (k : Nat) (A0 : Option Addr) (c0 : Nat) (l0 : List Int) (a1 : Int) (a2 : Int) (r : List Int) (w : World) (hr0 : Kd.C (Kd.int .u32) w A0 l0.length l0) (hc0 : l0.length ≤ c0) (h : N1shift.f k l0 a1 a2 = some r) :
 Calls Tryd.prog 99 #[.slice A0 l0.length c0, .int .u64 a1, .int .i64 a2] w fun e w' => ∃ v0_ : Value, e = .returned (v0_) ∧ Kd.R (Kd.int .u32) 86 w' w.heap.size (fun _ => True) v0_ r ∧ Below w.heap.size w w' := by
 have HR0 := Aside0.mk hr0
 have HC0 := Aside0.mk hc0
 clear hr0 hc0
 have HB := Aside0.mk (Below.refl w.heap.size w)
 have H : (if 0 ≤ a2 then (if (a2 : Int).toNat ≤ 70368744177664 then (N1shift.l0 k a1 a2 (List.replicate (a2 : Int).toNat 0) l0 (l0.length : Int) 0) else (none)) else (none)) = some r := h
 clear h
 replace H := of_ite H
 obtain ⟨c4, H⟩ := H
 have c4b0 := eq_true c4
 have c4b1 := decide_eq_true c4
 clear c4
 replace H := of_ite H
 obtain ⟨c5, H⟩ := H
 have c5b0 := eq_true c5
 have c5b1 := decide_eq_true c5
 clear c5
 obtain ⟨y140, hy140⟩ : ∃ y_ : List Int, y_ = (List.replicate (a2 : Int).toNat 0) := ⟨_, rfl⟩
 replace H : (N1shift.l0 k a1 a2 y140 l0 (l0.length : Int) 0) = some r := by first | (rw [hy140]; with_reducible exact H) | (have H2_ := (Option.bind_some _ _).symm.trans H; rw [hy140]; with_reducible exact H2_) | (have H2_ := (Option.bind_some _ _).symm.trans H; with_reducible exact H2_) | with_reducible exact H | (rw [hy140]; exact H) | exact H
 have Ny140 := Aside0.mk hy140
 clear hy140
 have H' := Aside0.mk H
 clear H
 go_enter Tryd.func99, Tryd.ntmps99
 go_wp2_with (first | ((with_reducible refine gate_dst (N := 12) rfl ?_); refine Kd.R_make (Kd.int .u32) _ 86 rfl (N := 12) rfl 84 _ _ rfl a2 rfl rfl Tryd.underlying84 (.int .u32 0) 4 info86 rfl (by decide) (by omega) 0 (ok := fun _ => True) (okp := fun _ => True) rfl (fun _ hk => hk) trivial (of_decide_eq_true zq0) (Nat.le_trans (Nat.mul_le_mul_right _ (of_decide_eq_true zq0 : a2.toNat ≤ 70368744177664)) (by omega)) (Below.refl _ _) (Nat.le_refl _) ?_; intro v141 w6 ho7 hb hg_ hnew_; clear hg_ hnew_; (first | rw [← Ny140.out] at ho7 | (simp only [Int.reduceToNat] at ho7; rw [← Ny140.out] at ho7)); have n0_ := Aside0.mk (Kd.R_lower ho7 (below_size zH)); have n1_ := sB hb; revert n0_ n1_; clear HB; intro HO142 HB; clear hb ho7))
 go_loopg [15] k (fun kq v15 w' => ∃ (x7_1 : List Int) (x15_1 : Int), v15 = .int .i64 x15_1 ∧ Aside0 (N1shift.l0 kq a1 a2 x7_1 l0 (l0.length : Int) x15_1 = some r) ∧ Aside0 (kq ≤ k) ∧ Aside0 (Kd.R (Kd.int .u32) 86 w' w.heap.size (fun _ => True) v141 x7_1) ∧ Aside0 (Below w.heap.size w w'))
 case atStart => exact ⟨(y140), (0), zq1, H', ⟨Nat.le_refl _⟩, ⟨by (with_reducible repeat (first | apply Kd.R_alloc | apply Kd.R_drewN | apply Kd.R_drew)); exact HO142.out⟩, ⟨zH⟩⟩
 case round =>
  clear H'
  (try clear p2); (try clear c4); (try clear c4b0); (try clear c4b1); (try clear c5); (try clear c5b0); (try clear c5b1)
  obtain ⟨x7_1, x15_1, rfl, HA, HK1, HO_7, HB⟩ := hrel
  cases gk with
  | zero => exact absurd HA.out (by simp [N1shift.l0])
  | succ k1 =>
   have H := HA.out
   clear HA
   simp only [N1shift.l0] at H
   by_cases c8 : x15_1 < (l0.length : Int)
   ·rw [if_pos c8] at H
    have c8b0 := decide_eq_true c8
    clear c8
    replace H := of_ite H
    obtain ⟨c9, H⟩ := H
    have c9b0 := decide_eq_true c9
    clear c9
    replace H := of_ite H
    obtain ⟨c10, H⟩ := H
    have c10b0 := decide_eq_true c10
    clear c10
    replace H := of_ite H
    obtain ⟨c11, H⟩ := H
    have c11b0 := eq_true c11
    have c11b1 := decide_eq_true c11
    clear c11
    replace H := of_ite H
    obtain ⟨c12, H⟩ := H
    have c12b0 := eq_true c12
    have c12b1 := decide_eq_true c12
    clear c12
    replace H := of_ite H
    obtain ⟨c13, H⟩ := H
    have c13b0 := decide_eq_true c13
    clear c13
    obtain ⟨y145, hy145⟩ : ∃ y_ : List Int, y_ = (x7_1.set (x15_1 : Int).toNat (Go.bits .or .u32 (rd x7_1 x15_1) ((IntKind.u64.wrap ((IntKind.u64.wrap (rd l0 x15_1)) * 2 ^ a1.toNat)) % 4294967296))) := ⟨_, rfl⟩
    replace H : (if (wrap64 (x15_1 + 1)) < a2 then (if 0 ≤ (wrap64 (x15_1 + 1)) then (if (wrap64 (x15_1 + 1)) < (x7_1.length : Int) then (N1shift.l0 k1 a1 a2 (y145.set ((wrap64 (x15_1 + 1)) : Int).toNat (Go.bits .or .u32 (rd y145 (wrap64 (x15_1 + 1))) (((IntKind.u64.wrap ((IntKind.u64.wrap (rd l0 x15_1)) * 2 ^ a1.toNat)) / 4294967296) % 4294967296))) l0 (l0.length : Int) (wrap64 (x15_1 + 1))) else (none)) else (none)) else (N1shift.l0 k1 a1 a2 y145 l0 (l0.length : Int) (wrap64 (x15_1 + 1)))) = some r := by first | (rw [hy145]; with_reducible exact H) | (have H2_ := (Option.bind_some _ _).symm.trans H; rw [hy145]; with_reducible exact H2_) | (have H2_ := (Option.bind_some _ _).symm.trans H; with_reducible exact H2_) | with_reducible exact H | (rw [hy145]; exact H) | exact H
    have Ny145 := Aside0.mk hy145
    clear hy145
    by_cases c15 : (wrap64 (x15_1 + 1)) < a2
    ·rw [if_pos c15] at H
     have c15b0 := decide_eq_true c15
     clear c15
     obtain ⟨ji16, hji16⟩ : ∃ j_ : Int, (wrap64 (x15_1 + 1)) = j_ := ⟨_, rfl⟩
     first | rw [hji16] at H | simp only [hji16] at H
     (try rw [hji16] at c15b0)
     have hji16w : (IntKind.i64.wrap (x15_1 + 1)) = ji16 := (i64_w _).trans hji16
     replace H := of_ite H
     obtain ⟨c17, H⟩ := H
     have c17b0 := decide_eq_true c17
     clear c17
     replace H := of_ite H
     obtain ⟨c18, H⟩ := H
     have c18b0 := decide_eq_true c18
     clear c18
     obtain ⟨y147, hy147⟩ : ∃ y_ : List Int, y_ = (y145.set ((ji16) : Int).toNat (Go.bits .or .u32 (rd y145 (ji16)) (((IntKind.u64.wrap ((IntKind.u64.wrap (rd l0 x15_1)) * 2 ^ a1.toNat)) / 4294967296) % 4294967296))) := ⟨_, rfl⟩
     replace H : (N1shift.l0 k1 a1 a2 y147 l0 (l0.length : Int) ji16) = some r := by first | (rw [hy147]; with_reducible exact H) | (have H2_ := (Option.bind_some _ _).symm.trans H; rw [hy147]; with_reducible exact H2_) | (have H2_ := (Option.bind_some _ _).symm.trans H; with_reducible exact H2_) | with_reducible exact H | (rw [hy147]; exact H) | exact H
     have Ny147 := Aside0.mk hy147
     clear hy147
     have H' := Aside0.mk H
     clear H
     have p143 : 0 ≤ (x15_1 : Int) := of_decide_eq_true zq0
     have q143 : x15_1 < (l0.length : Int) := of_decide_eq_true zq0
     obtain ⟨ad143, e143, hx143_0⟩ := Kd.at_int HR0.out x15_1 p143 q143
     cases e143
     (try replace hx143_0 := (HB.out.cell (World.block_lt_of_cell? w _ hx143_0)).trans hx143_0)
     replace p143 := eq_true p143
     replace q143 := eq_true q143
     obtain ⟨Ao20, co20, eo20⟩ := Kd.R_slice HO_7.out
     subst eo20
     have p144 : 0 ≤ (x15_1 : Int) := of_decide_eq_true zq0
     have q144 : x15_1 < (x7_1.length : Int) := of_decide_eq_true zq0
     obtain ⟨ad144, e144, hx144_0⟩ := Kd.at_int (Kd.R_reads' HO_7.out).2.2 x15_1 p144 q144
     cases e144
     replace p144 := eq_true p144
     replace q144 := eq_true q144
     have p14 : 0 ≤ (x15_1 : Int) := of_decide_eq_true zq0
     have q14 : (x15_1 : Int) < ((x7_1.length : Int) : Int) := of_decide_eq_true zq0
     obtain ⟨go14, co14, eo14, gb14, gl14, cl14, HG14⟩ := Kd.R_form HO_7.out (by omega)
     (first | cases eo14 | (injection eo14 with ea_ en_ ec_; (first | subst ea_ | (injection ea_ with ea_; subst ea_)); subst ec_; clear en_))
     have GB14 := Aside0.mk gb14
     have GG14 := Aside0.mk HG14
     clear gb14 gl14 HG14
     (first | simp only [add_plain] at hx144_0 | skip)
     obtain ⟨hx14_0, hf14_0⟩ := Kd.R_celln 0 HO_7.out (x15_1 : Int) p14 q14
     (try simp only [Go.IntWalk.toNatUp] at hx14_0 hf14_0)
     replace p14 := eq_true p14
     replace q14 := eq_true q14
     have HP21 := Kd.R_putg HO_7.out (x15_1 : Int) (Go.bits .or .u32 (rd x7_1 x15_1) ((IntKind.u64.wrap ((IntKind.u64.wrap (rd l0 x15_1)) * 2 ^ a1.toNat)) % 4294967296))
     go_wp2_with (first | ((with_reducible refine gate_store (t := 86) (p := 31) rfl ?_); refine store_event (t := 86) (p := 31) (v := ?vo_w22) (w1 := (wr.setCell ⟨go14, (x15_1 : Int).toNat, none⟩ (.int .u32 (Go.bits .or .u32 (rd x7_1 x15_1) ((IntKind.u64.wrap ((IntKind.u64.wrap (rd l0 x15_1)) * 2 ^ a1.toNat)) % 4294967296))))) ?hg ?ho ?hn ?hr ?_; (case ho => rfl); (case hg => rfl); (case hn => rfl); (case hr => first | (go_simp; done) | (go_simp; rfl)); intro w22 hw; have hg : wr.grownBy w22 (some go14) := (by rw [hw]; exact HP21.2); have hp_ : Kd.R (Kd.int .u32) 86 w22 w.heap.size (fun _ => True) (.slice (some ⟨go14, 0, none⟩) x7_1.length co20) y145 := (by rw [hw, Ny145.out]; exact HP21.1); clear HP21; have n0_ := Aside0.mk (hp_); have n1_ := Aside0.mk ((by rw [hw]; exact below_set (HB.out) GB14.out : Below w.heap.size w w22)); revert n0_ n1_; clear HO_7 HB; intro HO_7 HB; clear hg hw hp_; have p146 : 0 ≤ ((ji16) : Int) := of_decide_eq_true zq0; have q146 : (ji16) < (y145.length : Int) := (by have h_ : ((ji16) : Int) < ((x7_1.length : Int) : Int) := of_decide_eq_true zq0; first | (have e_ := (Kd.R_reads' HO_7.out).1; omega) | simpa only [Ny145.out, List.length_set] using h_); have ql146 : (((ji16) : Int) < ((x7_1.length : Int) : Int)) = True := eq_true (of_decide_eq_true zq0); obtain ⟨ad146, e146, hx146_0⟩ := Kd.at_int (Kd.R_reads' HO_7.out).2.2 (ji16) p146 q146; obtain rfl : (⟨go14, 0, none⟩ : Addr) = ad146 := (by injection e146); (first | simp only [add_plain] at hx146_0 | simp only [add_at] at hx146_0 | simp only [Addr.add, Nat.zero_add] at hx146_0 | skip); replace p146 := eq_true p146; replace q146 := eq_true q146; have p19 : 0 ≤ ((ji16) : Int) := of_decide_eq_true zq0; have q19 : ((ji16) : Int) < ((x7_1.length : Int) : Int) := of_decide_eq_true zq0; obtain ⟨hx19_0, hf19_0⟩ := Kd.R_celln 0 HO_7.out ((ji16) : Int) p19 q19; replace p19 := eq_true p19; replace q19 := eq_true q19; obtain ⟨hy23_, hz23_⟩ := Kd.R_celln 0 HO_7.out ((ji16) : Int) (of_decide_eq_true zq0) (of_decide_eq_true zq0); have HP23 := Kd.R_putg HO_7.out ((ji16) : Int) (Go.bits .or .u32 (rd y145 (ji16)) (((IntKind.u64.wrap ((IntKind.u64.wrap (rd l0 x15_1)) * 2 ^ a1.toNat)) / 4294967296) % 4294967296))) | ((with_reducible refine gate_store (t := 86) (p := 45) rfl ?_); refine store_event (t := 86) (p := 45) (v := ?vo_w24) (w1 := (w22.setCell ⟨go14, ((ji16) : Int).toNat, none⟩ (.int .u32 (Go.bits .or .u32 (rd y145 (ji16)) (((IntKind.u64.wrap ((IntKind.u64.wrap (rd l0 x15_1)) * 2 ^ a1.toNat)) / 4294967296) % 4294967296))))) ?hg ?ho ?hn ?hr ?_; (case ho => rfl); (case hg => rfl); (case hn => rfl); (case hr => first | (go_simp; done) | (go_simp; rfl)); intro w24 hw; have hg : w22.grownBy w24 (some go14) := (by rw [hw]; exact HP23.2); have hp_ : Kd.R (Kd.int .u32) 86 w24 w.heap.size (fun _ => True) (.slice (some ⟨go14, 0, none⟩) x7_1.length co20) y147 := (by rw [hw, Ny147.out]; exact HP23.1); clear HP23; have n0_ := Aside0.mk (hp_); have n1_ := Aside0.mk ((by rw [hw]; exact below_set (HB.out) GB14.out : Below w.heap.size w w24)); revert n0_ n1_; clear HO_7 HB; intro HO_7 HB; clear hg hw hp_))
     go_roundg k1
     case measure => have := HK1.out; omega
     case rel => exact ⟨(y147), (ji16), (by first | rfl | (simp; done) | (simp only [← hji16] <;> (first | rfl | simp)) | (simp [*]; done)), H', ⟨by have := HK1.out; omega⟩, ⟨by (with_reducible repeat (first | apply Kd.R_alloc | apply Kd.R_drewN | apply Kd.R_drew)); exact HO_7.out⟩, ⟨zH⟩⟩
    ·rw [if_neg c15] at H
     have c15b0 := decide_eq_false c15
     clear c15
     have H' := Aside0.mk H
     clear H
     have p143 : 0 ≤ (x15_1 : Int) := of_decide_eq_true zq0
     have q143 : x15_1 < (l0.length : Int) := of_decide_eq_true zq0
     obtain ⟨ad143, e143, hx143_0⟩ := Kd.at_int HR0.out x15_1 p143 q143
     cases e143
     (try replace hx143_0 := (HB.out.cell (World.block_lt_of_cell? w _ hx143_0)).trans hx143_0)
     replace p143 := eq_true p143
     replace q143 := eq_true q143
     obtain ⟨Ao25, co25, eo25⟩ := Kd.R_slice HO_7.out
     subst eo25
     have p144 : 0 ≤ (x15_1 : Int) := of_decide_eq_true zq0
     have q144 : x15_1 < (x7_1.length : Int) := of_decide_eq_true zq0
     obtain ⟨ad144, e144, hx144_0⟩ := Kd.at_int (Kd.R_reads' HO_7.out).2.2 x15_1 p144 q144
     cases e144
     replace p144 := eq_true p144
     replace q144 := eq_true q144
     have p14 : 0 ≤ (x15_1 : Int) := of_decide_eq_true zq0
     have q14 : (x15_1 : Int) < ((x7_1.length : Int) : Int) := of_decide_eq_true zq0
     obtain ⟨go14, co14, eo14, gb14, gl14, cl14, HG14⟩ := Kd.R_form HO_7.out (by omega)
     (first | cases eo14 | (injection eo14 with ea_ en_ ec_; (first | subst ea_ | (injection ea_ with ea_; subst ea_)); subst ec_; clear en_))
     have GB14 := Aside0.mk gb14
     have GG14 := Aside0.mk HG14
     clear gb14 gl14 HG14
     (first | simp only [add_plain] at hx144_0 | skip)
     obtain ⟨hx14_0, hf14_0⟩ := Kd.R_celln 0 HO_7.out (x15_1 : Int) p14 q14
     (try simp only [Go.IntWalk.toNatUp] at hx14_0 hf14_0)
     replace p14 := eq_true p14
     replace q14 := eq_true q14
     have HP26 := Kd.R_putg HO_7.out (x15_1 : Int) (Go.bits .or .u32 (rd x7_1 x15_1) ((IntKind.u64.wrap ((IntKind.u64.wrap (rd l0 x15_1)) * 2 ^ a1.toNat)) % 4294967296))
     go_wp2_with (first | ((with_reducible refine gate_store (t := 86) (p := 31) rfl ?_); refine store_event (t := 86) (p := 31) (v := ?vo_w27) (w1 := (wr.setCell ⟨go14, (x15_1 : Int).toNat, none⟩ (.int .u32 (Go.bits .or .u32 (rd x7_1 x15_1) ((IntKind.u64.wrap ((IntKind.u64.wrap (rd l0 x15_1)) * 2 ^ a1.toNat)) % 4294967296))))) ?hg ?ho ?hn ?hr ?_; (case ho => rfl); (case hg => rfl); (case hn => rfl); (case hr => first | (go_simp; done) | (go_simp; rfl)); intro w27 hw; have hg : wr.grownBy w27 (some go14) := (by rw [hw]; exact HP26.2); have hp_ : Kd.R (Kd.int .u32) 86 w27 w.heap.size (fun _ => True) (.slice (some ⟨go14, 0, none⟩) x7_1.length co25) y145 := (by rw [hw, Ny145.out]; exact HP26.1); clear HP26; have n0_ := Aside0.mk (hp_); have n1_ := Aside0.mk ((by rw [hw]; exact below_set (HB.out) GB14.out : Below w.heap.size w w27)); revert n0_ n1_; clear HO_7 HB; intro HO_7 HB; clear hg hw hp_))
     go_roundg k1
     case measure => have := HK1.out; omega
     case rel => exact ⟨(y145), (wrap64 (x15_1 + 1)), zq1, H', ⟨by have := HK1.out; omega⟩, ⟨by (with_reducible repeat (first | apply Kd.R_alloc | apply Kd.R_drewN | apply Kd.R_drew)); exact HO_7.out⟩, ⟨zH⟩⟩
   ·rw [if_neg c8] at H
    have c8b0 := decide_eq_false c8
    clear c8
    obtain rfl := Option.some.inj H
    go_wp2
    go_ret
    exact ⟨_, zE, by (with_reducible repeat (first | apply Kd.R_alloc | apply Kd.R_drewN | apply Kd.R_drew)); exact HO_7.out, zH⟩
def bits_Add32.f (a0 : Int) (a1 : Int) (a2 : Int) : Option (Int × Int) := some ((IntKind.u64.wrap ((IntKind.u64.wrap ((IntKind.u64.wrap (a0)) + (IntKind.u64.wrap (a1)))) + (IntKind.u64.wrap (a2)))) % 4294967296, ((IntKind.u64.wrap ((IntKind.u64.wrap ((IntKind.u64.wrap (a0)) + (IntKind.u64.wrap (a1)))) + (IntKind.u64.wrap (a2)))) / 4294967296) % 4294967296)
set_option maxHeartbeats 8000000 in
set_option maxRecDepth 100000 in
theorem bits_Add32.calls (a0 : Int) (a1 : Int) (a2 : Int) (r1 : Int) (r2 : Int) (w : World) (h : bits_Add32.f a0 a1 a2 = some (r1, r2)) :
 Calls Tryd.prog 87 #[.int .u32 a0, .int .u32 a1, .int .u32 a2] w fun e w' => e = .returned (.tuple #[.int .u32 r1, .int .u32 r2]) ∧ Drawn0 w w' := by
 have H : (some ((IntKind.u64.wrap ((IntKind.u64.wrap ((IntKind.u64.wrap (a0)) + (IntKind.u64.wrap (a1)))) + (IntKind.u64.wrap (a2)))) % 4294967296, ((IntKind.u64.wrap ((IntKind.u64.wrap ((IntKind.u64.wrap (a0)) + (IntKind.u64.wrap (a1)))) + (IntKind.u64.wrap (a2)))) / 4294967296) % 4294967296)) = some (r1, r2) := h
 clear h
 simp only [Option.some.injEq, Prod.mk.injEq] at H
 obtain ⟨rfl, rfl⟩ := H
 go_enter Tryd.func87, Tryd.ntmps87
 go_wp2
 go_ret2
 exact ⟨by first | rfl | (simp; done) | (simp [*]; done), by repeat (first | exact Drawn0.refl _ | apply Drawn0.step)⟩
def bits_Sub32.f (a0 : Int) (a1 : Int) (a2 : Int) : Option (Int × Int) := some ((((a0 - a1) % 4294967296) - a2) % 4294967296, (Go.bits .or .u32 (Go.bits .and .u32 (Go.bits .xor .u32 4294967295 a0) a1) (Go.bits .and .u32 (Go.bits .xor .u32 4294967295 (Go.bits .xor .u32 a0 a1)) ((((a0 - a1) % 4294967296) - a2) % 4294967296))) / 2147483648)
set_option maxHeartbeats 8000000 in
set_option maxRecDepth 100000 in
theorem bits_Sub32.calls (a0 : Int) (a1 : Int) (a2 : Int) (r1 : Int) (r2 : Int) (w : World) (h : bits_Sub32.f a0 a1 a2 = some (r1, r2)) :
 Calls Tryd.prog 102 #[.int .u32 a0, .int .u32 a1, .int .u32 a2] w fun e w' => e = .returned (.tuple #[.int .u32 r1, .int .u32 r2]) ∧ Drawn0 w w' := by
 have H : (some ((((a0 - a1) % 4294967296) - a2) % 4294967296, (Go.bits .or .u32 (Go.bits .and .u32 (Go.bits .xor .u32 4294967295 a0) a1) (Go.bits .and .u32 (Go.bits .xor .u32 4294967295 (Go.bits .xor .u32 a0 a1)) ((((a0 - a1) % 4294967296) - a2) % 4294967296))) / 2147483648)) = some (r1, r2) := h
 clear h
 simp only [Option.some.injEq, Prod.mk.injEq] at H
 obtain ⟨rfl, rfl⟩ := H
 go_enter Tryd.func102, Tryd.ntmps102
 go_wp2
 go_ret2
 exact ⟨by first | rfl | (simp; done) | (simp [*]; done), by repeat (first | exact Drawn0.refl _ | apply Drawn0.step)⟩
end Go.Proofs.YtggfilmdfpmbmaaDoor.QN
end
section
namespace Go.Proofs.YtggfilmdfpmbmaaDoor.QN
open Go.RowKit Go.Proofs.YtggfilmdfpmbmaaDoorW.PrintWords Go.Proofs.YtggfilmdfpmbmaaDoorW.PrintLast Go.Proofs.YtggfilmdfpmbmaaDoorW.PrintMore
attribute [local go_sem] max2_int min2_int max_two min_two max_three min_three max_four min_four   -- for this text's walks alone
set_option linter.unusedVariables false
set_option linter.unusedSimpArgs false
mutual
def N1step.j2 : Nat → List Int → List Int → Int → Int → Option (Int × List Int)
 | 0, _, _, _, _ => none
 | k + 1, x0, x1, x5, x7 => N1step.l1 k x0 x1 x5 x7 0 0 x1 (x1.length : Int) 0
def N1step.l1 : Nat → List Int → List Int → Int → Int → Int → Int → List Int → Int → Int → Option (Int × List Int)
 | 0, _, _, _, _, _, _, _, _, _ => none
 | k + 1, x0, x1, x5, x7, x9, x10, x82, x83, x84 => if x84 < x83 then (if 0 ≤ x84 then (if x84 < (x82.length : Int) then (if x84 < (x0.length : Int) then ((bits_Sub32.f (rd x0 x84) ((IntKind.u64.wrap ((IntKind.u64.wrap (x7 * (IntKind.u64.wrap (rd x82 x84)))) + x9)) % 4294967296) x10).bind fun bt157 => (N1step.l1 k (x0.set (x84 : Int).toNat bt157.1) x1 x5 x7 ((IntKind.u64.wrap ((IntKind.u64.wrap (x7 * (IntKind.u64.wrap (rd x82 x84)))) + x9)) / 4294967296) bt157.2 x82 x83 (wrap64 (x84 + 1)))) else (none)) else (none)) else (none)) else (if 0 ≤ x5 then (if x5 < (x0.length : Int) then ((bits_Sub32.f (rd x0 x5) ((x9) % 4294967296) x10).bind fun bt161 => ((some (x0.set (x5 : Int).toNat bt161.1 : List Int)).bind fun y163 => (if bt161.2 = 0 then (some ((x7) % 4294967296, y163)) else (N1step.l2 k y163 x5 x7 0 x1 (x1.length : Int) 0)))) else (none)) else (none))
def N1step.l2 : Nat → List Int → Int → Int → Int → List Int → Int → Int → Option (Int × List Int)
 | 0, _, _, _, _, _, _, _ => none
 | k + 1, x0, x5, x7, x14, x130, x131, x132 => if x132 < x131 then (if 0 ≤ x132 then (if x132 < (x130.length : Int) then (if x132 < (x0.length : Int) then ((bits_Add32.f (rd x0 x132) (rd x130 x132) x14).bind fun bt166 => (N1step.l2 k (x0.set (x132 : Int).toNat bt166.1) x5 x7 bt166.2 x130 x131 (wrap64 (x132 + 1)))) else (none)) else (none)) else (none)) else (if 0 ≤ x5 then (if x5 < (x0.length : Int) then (some ((IntKind.u64.wrap (x7 - 1)) % 4294967296, (x0.set (x5 : Int).toNat (((rd x0 x5) + x14) % 4294967296)))) else (none)) else (none))
def N1step.l0 : Nat → List Int → List Int → Int → Int → Int → Option (Int × List Int)
 | 0, _, _, _, _, _ => none
 | k + 1, x0, x1, x5, x7, x8 => if x7 ≥ 4294967296 then (N1step.j1 k x0 x1 x5 x7 x8 true) else (if 0 ≤ (wrap64 (x5 - 2)) then (if (wrap64 (x5 - 2)) < (x1.length : Int) then (if (wrap64 (x5 - 2)) < (x0.length : Int) then (N1step.j1 k x0 x1 x5 x7 x8 (decide ((IntKind.u64.wrap (x7 * (IntKind.u64.wrap (rd x1 (wrap64 (x5 - 2)))))) > (Go.bits .or .u64 (IntKind.u64.wrap (x8 * 4294967296)) (IntKind.u64.wrap (rd x0 (wrap64 (x5 - 2)))))))) else (none)) else (none)) else (none))
def N1step.j1 : Nat → List Int → List Int → Int → Int → Int → Bool → Option (Int × List Int)
 | 0, _, _, _, _, _, _ => none
 | k + 1, x0, x1, x5, x7, x8, x69 => if x69 = true then (if 0 ≤ (wrap64 (x5 - 1)) then (if (wrap64 (x5 - 1)) < (x1.length : Int) then (if (IntKind.u64.wrap (x8 + (IntKind.u64.wrap (rd x1 (wrap64 (x5 - 1)))))) ≥ 4294967296 then (N1step.j2 k x0 x1 x5 (IntKind.u64.wrap (x7 - 1))) else (N1step.l0 k x0 x1 x5 (IntKind.u64.wrap (x7 - 1)) (IntKind.u64.wrap (x8 + (IntKind.u64.wrap (rd x1 (wrap64 (x5 - 1)))))))) else (none)) else (none)) else (N1step.j2 k x0 x1 x5 x7)
end
def N1step.f (k : Nat) (l0 : List Int) (l1 : List Int) : Option (Int × List Int) := if 0 ≤ (l1.length : Int) then (if (l1.length : Int) < (l0.length : Int) then (if 0 ≤ (wrap64 ((l1.length : Int) - 1)) then (if (wrap64 ((l1.length : Int) - 1)) < (l0.length : Int) then (if (wrap64 ((l1.length : Int) - 1)) < (l1.length : Int) then (if (IntKind.u64.wrap (rd l1 (wrap64 ((l1.length : Int) - 1)))) = 0 then (none) else (N1step.l0 k l0 l1 (l1.length : Int) (IntKind.u64.wrap (Int.tdiv (Go.bits .or .u64 (IntKind.u64.wrap ((IntKind.u64.wrap (rd l0 (l1.length : Int))) * 4294967296)) (IntKind.u64.wrap (rd l0 (wrap64 ((l1.length : Int) - 1))))) (IntKind.u64.wrap (rd l1 (wrap64 ((l1.length : Int) - 1)))))) (Int.tmod (Go.bits .or .u64 (IntKind.u64.wrap ((IntKind.u64.wrap (rd l0 (l1.length : Int))) * 4294967296)) (IntKind.u64.wrap (rd l0 (wrap64 ((l1.length : Int) - 1))))) (IntKind.u64.wrap (rd l1 (wrap64 ((l1.length : Int) - 1))))))) else (none)) else (none)) else (none)) else (none)) else (none)
set_option maxHeartbeats 8000000 in
set_option maxRecDepth 100000 in
theorem N1step.calls (k : Nat) (pre_ post_ : List Int) (P0_ : Nat → Prop) (u9000_ : Value) (l0 : List Int) (A1 : Option Addr) (c1 : Nat) (l1 : List Int) (r1 : Int) (r2 : List Int) (w0 w : World) (hB : Below w0.heap.size w0 w) (ho0 : Kd.W pre_ post_ (Kd.int .u32) 86 w w0.heap.size P0_ u9000_ l0) (hr1 : ∀ W_, Kept w W_ (fun k_ => P0_ k_) → Kd.C (Kd.int .u32) W_ A1 l1.length l1) (hc1 : l1.length ≤ c1) (h : N1step.f k l0 l1 = some (r1, r2)) :
 Calls Tryd.prog 100 #[u9000_, .slice A1 l1.length c1] w fun e w' => e = .returned (.int .u32 r1) ∧ Kd.W pre_ post_ (Kd.int .u32) 86 w' w0.heap.size (fun k_ => (P0_ k_ ∨ w.heap.size ≤ k_)) u9000_ r2 ∧ Below w0.heap.size w0 w' ∧ Kept w w' (fun k_ => P0_ k_) := by
 have HO0 := Aside0.mk (show Kd.W pre_ post_ (Kd.int .u32) 86 w w0.heap.size (fun k_ => (P0_ k_ ∨ w.heap.size ≤ k_)) u9000_ l0 from Kd.W_mono ho0 (fun k_ hk => (.inl hk)))
 have HR1 := Aside0.mk hr1
 have HC1 := Aside0.mk hc1
 clear hr1 hc1
 have HK := Aside0.mk (Kept.refl w (fun k_ => P0_ k_))
 have HW0 := Aside0.mk hB.size
 have HB := Aside0.mk hB
 clear hB
 have H : (if 0 ≤ (l1.length : Int) then (if (l1.length : Int) < (l0.length : Int) then (if 0 ≤ (wrap64 ((l1.length : Int) - 1)) then (if (wrap64 ((l1.length : Int) - 1)) < (l0.length : Int) then (if (wrap64 ((l1.length : Int) - 1)) < (l1.length : Int) then (if (IntKind.u64.wrap (rd l1 (wrap64 ((l1.length : Int) - 1)))) = 0 then (none) else (N1step.l0 k l0 l1 (l1.length : Int) (IntKind.u64.wrap (Int.tdiv (Go.bits .or .u64 (IntKind.u64.wrap ((IntKind.u64.wrap (rd l0 (l1.length : Int))) * 4294967296)) (IntKind.u64.wrap (rd l0 (wrap64 ((l1.length : Int) - 1))))) (IntKind.u64.wrap (rd l1 (wrap64 ((l1.length : Int) - 1)))))) (Int.tmod (Go.bits .or .u64 (IntKind.u64.wrap ((IntKind.u64.wrap (rd l0 (l1.length : Int))) * 4294967296)) (IntKind.u64.wrap (rd l0 (wrap64 ((l1.length : Int) - 1))))) (IntKind.u64.wrap (rd l1 (wrap64 ((l1.length : Int) - 1))))))) else (none)) else (none)) else (none)) else (none)) else (none)) = some (r1, r2) := h
 clear h
 replace H := of_ite H
 obtain ⟨c3, H⟩ := H
 have c3b0 := decide_eq_true c3
 have c3b1 : decide (0 ≤ l1.length) = true := decide_eq_true (by omega)
 clear c3
 replace H := of_ite H
 obtain ⟨c4, H⟩ := H
 have c4b0 := decide_eq_true c4
 have c4b1 : decide (l1.length < l0.length) = true := decide_eq_true (Int.ofNat_lt.mp c4)
 clear c4
 obtain ⟨ji5, hji5⟩ : ∃ j_ : Int, (wrap64 ((l1.length : Int) - 1)) = j_ := ⟨_, rfl⟩
 first | rw [hji5] at H | simp only [hji5] at H
 have hji5w : (IntKind.i64.wrap ((l1.length : Int) - 1)) = ji5 := (i64_w _).trans hji5
 replace H := of_ite H
 obtain ⟨c6, H⟩ := H
 have c6b0 := decide_eq_true c6
 clear c6
 replace H := of_ite H
 obtain ⟨c7, H⟩ := H
 have c7b0 := decide_eq_true c7
 clear c7
 replace H := of_ite H
 obtain ⟨c8, H⟩ := H
 have c8b0 := decide_eq_true c8
 clear c8
 by_cases c9 : (IntKind.u64.wrap (rd l1 (ji5))) = 0
 ·rw [if_pos c9] at H
  exact absurd H (by simp)
 ·rw [if_neg c9] at H
  have c9b0 := beq_eq_false_iff_ne.mpr c9
  have c9b1 := bne_iff_ne.mpr c9
  have HC10 := Aside0.mk H
  clear H
  obtain ⟨Ao11, co11, eo11, _⟩ := Kd.W_slice HO0.out
  subst eo11
  have p148 : 0 ≤ ((l1.length : Int) : Int) := of_decide_eq_true zq0
  have q148 : (l1.length : Int) < (l0.length : Int) := of_decide_eq_true zq0
  obtain ⟨ad148, e148, hx148_0⟩ := Kd.at_int (Kd.W_reads' rfl HO0.out).2.2 (l1.length : Int) p148 q148
  cases e148
  (try simp only [Go.IntWalk.toNatUp] at hx148_0)
  replace p148 := eq_true p148
  replace q148 := eq_true q148
  have p149 : 0 ≤ ((ji5) : Int) := of_decide_eq_true zq0
  have q149 : (ji5) < (l0.length : Int) := of_decide_eq_true zq0
  obtain ⟨ad149, e149, hx149_0⟩ := Kd.at_int (Kd.W_reads' rfl HO0.out).2.2 (ji5) p149 q149
  obtain rfl : ad148 = ad149 := (by injection e149)
  replace p149 := eq_true p149
  replace q149 := eq_true q149
  have p150 : 0 ≤ ((ji5) : Int) := of_decide_eq_true zq0
  have q150 : (ji5) < (l1.length : Int) := of_decide_eq_true zq0
  obtain ⟨ad150, e150, hx150_0⟩ := Kd.at_int (Kd.C_kept_now HR1.out HK.out) (ji5) p150 q150
  cases e150
  replace p150 := eq_true p150
  replace q150 := eq_true q150
  have p151 : 0 ≤ ((ji5) : Int) := of_decide_eq_true zq0
  have q151 : (ji5) < (l1.length : Int) := of_decide_eq_true zq0
  obtain ⟨ad151, e151, hx151_0⟩ := Kd.at_int (Kd.C_kept_now HR1.out HK.out) (ji5) p151 q151
  obtain rfl : ad150 = ad151 := (by injection e151)
  replace p151 := eq_true p151
  replace q151 := eq_true q151
  go_enter Tryd.func100, Tryd.ntmps100
  go_upto_block 0 with (fail)
  repeat (go_quiet (fail); go_upto_block 0 with (fail))
  go_cut [7] (fun v7 wc => ∃ (kq : Nat) (x7_9 : Int), v7 = .int .u64 x7_9 ∧ Aside0 (N1step.j2 kq l0 l1 (l1.length : Int) x7_9 = some (r1, r2)) ∧ Aside0 (kq ≤ k) ∧ Aside0 (Kd.W pre_ post_ (Kd.int .u32) 86 wc w0.heap.size (fun k_ => (P0_ k_ ∨ w.heap.size ≤ k_)) (.slice (some ad148) l0.length co11) l0) ∧ Aside0 (Kept w wc (fun k_ => P0_ k_)) ∧ Aside0 (Below w0.heap.size w0 wc))
  case first =>
   have H := HC10.out
   clear HC10
   have H' := Aside0.mk H
   clear H
   go_wp2
   repeat (go_quiet (fail); try go_wp2)
   go_loopg [7, 8] k (fun kq v7 v8 w' => ∃ (x7_1 : Int) (x8_1 : Int), v7 = .int .u64 x7_1 ∧ v8 = .int .u64 x8_1 ∧ Aside0 (N1step.l0 kq l0 l1 (l1.length : Int) x7_1 x8_1 = some (r1, r2)) ∧ Aside0 (kq ≤ k) ∧ Aside0 (Kd.W pre_ post_ (Kd.int .u32) 86 w' w0.heap.size (fun k_ => (P0_ k_ ∨ w.heap.size ≤ k_)) (.slice (some ad148) l0.length co11) l0) ∧ Aside0 (Kept w w' (fun k_ => P0_ k_)) ∧ Aside0 (Below w0.heap.size w0 w'))
   case atStart => exact ⟨(IntKind.u64.wrap (Int.tdiv (Go.bits .or .u64 (IntKind.u64.wrap ((IntKind.u64.wrap (rd l0 (l1.length : Int))) * 4294967296)) (IntKind.u64.wrap (rd l0 (ji5)))) (IntKind.u64.wrap (rd l1 (ji5))))), (Int.tmod (Go.bits .or .u64 (IntKind.u64.wrap ((IntKind.u64.wrap (rd l0 (l1.length : Int))) * 4294967296)) (IntKind.u64.wrap (rd l0 (ji5)))) (IntKind.u64.wrap (rd l1 (ji5)))), (by first | rfl | (simp; done) | (simp only [← hji5] <;> (first | rfl | simp)) | (simp [*]; done)), (by first | rfl | (simp; done) | (simp only [← hji5] <;> (first | rfl | simp)) | (simp [*]; done)), H', ⟨Nat.le_refl _⟩, ⟨id (by (with_reducible repeat (first | apply Kd.W_alloc | apply Kd.W_drewN | apply Kd.W_drew)); exact HO0.out)⟩, ⟨by repeat (first | (with_reducible first | exact HK.out | apply Kept.alloc | apply Kept.drewN | apply Kept.drew) | exact HK.out)⟩, ⟨zH⟩⟩
   case round =>
    clear H'
    (try clear c1); (try clear p1); (try clear q1); (try clear hx1); (try clear p2); (try clear c3); (try clear c3b0); (try clear c3b1); (try clear c4); (try clear c4b0); (try clear c4b1); (try clear c6); (try clear c6b0); (try clear p6); (try clear c7); (try clear c7b0); (try clear c8); (try clear c8b0); (try clear c9); (try clear c9b0); (try clear c9b1); (try clear c10); (try clear hx148_0); (try clear hx149_0); (try clear hx150_0); (try clear hx151_0); (try clear p148); (try clear p149); (try clear p150); (try clear p151); (try clear q148); (try clear q149); (try clear q150); (try clear q151)
    obtain ⟨x7_1, x8_1, rfl, rfl, HA, HK1, HO_0, HK, HB⟩ := hrel
    cases gk with
    | zero => exact absurd HA.out (by simp [N1step.l0])
    | succ k1 =>
     have H := HA.out
     clear HA
     simp only [N1step.l0] at H
     have HC12 := Aside0.mk H
     clear H
     go_upto_region 4 with (fail)
     repeat (go_quiet (fail); go_upto_region 4 with (fail))
     go_cut [69] (fun v69 wc => ∃ (kq : Nat) (x69_11 : Bool), v69 = .bool x69_11 ∧ Aside0 (N1step.j1 kq l0 l1 (l1.length : Int) x7_1 x8_1 x69_11 = some (r1, r2)) ∧ Aside0 (kq ≤ k1) ∧ Aside0 (Kd.W pre_ post_ (Kd.int .u32) 86 wc w0.heap.size (fun k_ => (P0_ k_ ∨ w.heap.size ≤ k_)) (.slice (some ad148) l0.length co11) l0) ∧ Aside0 (Kept w wc (fun k_ => P0_ k_)) ∧ Aside0 (Below w0.heap.size w0 wc))
     case first =>
      have H := HC12.out
      clear HC12
      by_cases c13 : x7_1 ≥ 4294967296
      ·rw [if_pos c13] at H
       have c13b0 := decide_eq_true c13
       clear c13
       (first | rw [c13b0] | (simp only [i64_w, i32_w]; rw [c13b0]) | rw [c13b1] | skip)
       have H' := Aside0.mk H
       clear H
       go_wp2
       repeat (go_quiet (fail); try go_wp2)
       go_meet
       case rel => exact ⟨_, (true), zq1, H', ⟨by have := HK1.out; first | omega | exact Nat.le_refl _⟩, ⟨by (with_reducible repeat (first | apply Kd.W_alloc | apply Kd.W_drewN | apply Kd.W_drew)); exact HO_0.out⟩, ⟨by repeat (first | (with_reducible first | exact HK.out | apply Kept.alloc | apply Kept.drewN | apply Kept.drew) | exact HK.out)⟩, ⟨zH⟩⟩
      ·rw [if_neg c13] at H
       have c13b0 := decide_eq_false c13
       clear c13
       (first | rw [c13b0] | (simp only [i64_w, i32_w]; rw [c13b0]) | rw [c13b1] | skip)
       obtain ⟨ji14, hji14⟩ : ∃ j_ : Int, (wrap64 ((l1.length : Int) - 2)) = j_ := ⟨_, rfl⟩
       first | rw [hji14] at H | simp only [hji14] at H
       have hji14w : (IntKind.i64.wrap ((l1.length : Int) - 2)) = ji14 := (i64_w _).trans hji14
       replace H := of_ite H
       obtain ⟨c15, H⟩ := H
       have c15b0 := decide_eq_true c15
       clear c15
       replace H := of_ite H
       obtain ⟨c16, H⟩ := H
       have c16b0 := decide_eq_true c16
       clear c16
       replace H := of_ite H
       obtain ⟨c17, H⟩ := H
       have c17b0 := decide_eq_true c17
       clear c17
       have H' := Aside0.mk H
       clear H
       have p152 : 0 ≤ ((ji14) : Int) := of_decide_eq_true zq0
       have q152 : (ji14) < (l1.length : Int) := of_decide_eq_true zq0
       obtain ⟨ad152, e152, hx152_0⟩ := Kd.at_int (Kd.C_kept_now HR1.out HK.out) (ji14) p152 q152
       obtain rfl : ad150 = ad152 := (by injection e152)
       replace p152 := eq_true p152
       replace q152 := eq_true q152
       have p153 : 0 ≤ ((ji14) : Int) := of_decide_eq_true zq0
       have q153 : (ji14) < (l0.length : Int) := of_decide_eq_true zq0
       obtain ⟨ad153, e153, hx153_0⟩ := Kd.at_int (Kd.W_reads' rfl HO_0.out).2.2 (ji14) p153 q153
       obtain rfl : ad148 = ad153 := (by injection e153)
       replace p153 := eq_true p153
       replace q153 := eq_true q153
       go_wp2
       repeat (go_quiet (fail); try go_wp2)
       go_meet
       case rel => exact ⟨_, (decide ((IntKind.u64.wrap (x7_1 * (IntKind.u64.wrap (rd l1 (ji14))))) > (Go.bits .or .u64 (IntKind.u64.wrap (x8_1 * 4294967296)) (IntKind.u64.wrap (rd l0 (ji14)))))), (by first | rfl | (simp; done) | (simp only [← hji14] <;> (first | rfl | simp)) | (simp [*]; done)), H', ⟨by have := HK1.out; first | omega | exact Nat.le_refl _⟩, ⟨by (with_reducible repeat (first | apply Kd.W_alloc | apply Kd.W_drewN | apply Kd.W_drew)); exact HO_0.out⟩, ⟨by repeat (first | (with_reducible first | exact HK.out | apply Kept.alloc | apply Kept.drewN | apply Kept.drew) | exact HK.out)⟩, ⟨zH⟩⟩
     case rest =>
      clear HC12
      (try clear c1); (try clear p1); (try clear q1); (try clear hx1); (try clear p2); (try clear c3); (try clear c3b0); (try clear c3b1); (try clear c4); (try clear c4b0); (try clear c4b1); (try clear c6); (try clear c6b0); (try clear p6); (try clear c7); (try clear c7b0); (try clear c8); (try clear c8b0); (try clear c9); (try clear c9b0); (try clear c9b1); (try clear c10); (try clear c13); (try clear c13b0); (try clear c13b1); (try clear p14); (try clear q14); (try clear hx14); (try clear c15); (try clear c15b0); (try clear p15); (try clear q15); (try clear hx15); (try clear c16); (try clear c16b0); (try clear c17); (try clear c17b0); (try clear hx148_0); (try clear hx149_0); (try clear hx150_0); (try clear hx151_0); (try clear hx152_0); (try clear hx153_0); (try clear p1); (try clear p148); (try clear p149); (try clear p150); (try clear p151); (try clear p152); (try clear p153); (try clear p2); (try clear p6); (try clear q1); (try clear q148); (try clear q149); (try clear q150); (try clear q151); (try clear q152); (try clear q153)
      obtain ⟨kq, x69_11, rfl, HA, HJ11, HO_0, HK, HB⟩ := hcut
      cases kq with
      | zero => exact absurd HA.out (by simp [N1step.j1])
      | succ kj11 =>
       have H := HA.out
       clear HA
       simp only [N1step.j1] at H
       by_cases c18 : x69_11 = true
       ·subst c18
        have H1 : (if 0 ≤ (wrap64 ((l1.length : Int) - 1)) then (if (wrap64 ((l1.length : Int) - 1)) < (l1.length : Int) then (if (IntKind.u64.wrap (x8_1 + (IntKind.u64.wrap (rd l1 (wrap64 ((l1.length : Int) - 1)))))) ≥ 4294967296 then (N1step.j2 kj11 l0 l1 (l1.length : Int) (IntKind.u64.wrap (x7_1 - 1))) else (N1step.l0 kj11 l0 l1 (l1.length : Int) (IntKind.u64.wrap (x7_1 - 1)) (IntKind.u64.wrap (x8_1 + (IntKind.u64.wrap (rd l1 (wrap64 ((l1.length : Int) - 1)))))))) else (none)) else (none)) = some (r1, r2) := by rw [if_pos rfl] at H; exact H
        clear H
        have H := H1
        clear H1
        obtain ⟨ji19, hji19⟩ : ∃ j_ : Int, (wrap64 ((l1.length : Int) - 1)) = j_ := ⟨_, rfl⟩
        first | rw [hji19] at H | simp only [hji19] at H
        (try clear hji5w); (try clear hji5)
        have hji19w : (IntKind.i64.wrap ((l1.length : Int) - 1)) = ji19 := (i64_w _).trans hji19
        replace H := of_ite H
        obtain ⟨c20, H⟩ := H
        have c20b0 := decide_eq_true c20
        clear c20
        replace H := of_ite H
        obtain ⟨c21, H⟩ := H
        have c21b0 := decide_eq_true c21
        clear c21
        by_cases c22 : (IntKind.u64.wrap (x8_1 + (IntKind.u64.wrap (rd l1 (ji19))))) ≥ 4294967296
        ·rw [if_pos c22] at H
         have c22b0 := decide_eq_true c22
         clear c22
         have H' := Aside0.mk H
         clear H
         have p154 : 0 ≤ ((ji19) : Int) := of_decide_eq_true zq0
         have q154 : (ji19) < (l1.length : Int) := of_decide_eq_true zq0
         obtain ⟨ad154, e154, hx154_0⟩ := Kd.at_int (Kd.C_kept_now HR1.out HK.out) (ji19) p154 q154
         obtain rfl : ad150 = ad154 := (by injection e154)
         replace p154 := eq_true p154
         replace q154 := eq_true q154
         go_wp2
         repeat (go_quiet (fail); try go_wp2)
         go_meet
         case rel => exact ⟨_, (IntKind.u64.wrap (x7_1 - 1)), zq1, H', ⟨by have := HK1.out; have := HJ11.out; first | omega | exact Nat.le_refl _⟩, ⟨by (with_reducible repeat (first | apply Kd.W_alloc | apply Kd.W_drewN | apply Kd.W_drew)); exact HO_0.out⟩, ⟨by repeat (first | (with_reducible first | exact HK.out | apply Kept.alloc | apply Kept.drewN | apply Kept.drew) | exact HK.out)⟩, ⟨zH⟩⟩
        ·rw [if_neg c22] at H
         have c22b0 := decide_eq_false c22
         clear c22
         have H' := Aside0.mk H
         clear H
         have p154 : 0 ≤ ((ji19) : Int) := of_decide_eq_true zq0
         have q154 : (ji19) < (l1.length : Int) := of_decide_eq_true zq0
         obtain ⟨ad154, e154, hx154_0⟩ := Kd.at_int (Kd.C_kept_now HR1.out HK.out) (ji19) p154 q154
         obtain rfl : ad150 = ad154 := (by injection e154)
         replace p154 := eq_true p154
         replace q154 := eq_true q154
         go_wp2
         repeat (go_quiet (fail); try go_wp2)
         (refine Handed.intro kj11 ?measure ?_; rotate_left; go_step; (repeat apply Exists.intro); refine ⟨?rel, (by first | rfl | (simp only [add_at]; rfl))⟩)
         case measure => have := HK1.out; have := HJ11.out; omega
         case rel => exact ⟨(IntKind.u64.wrap (x7_1 - 1)), (IntKind.u64.wrap (x8_1 + (IntKind.u64.wrap (rd l1 (ji19))))), zq1, (by first | rfl | (simp; done) | (simp only [← hji19] <;> (first | rfl | simp)) | (simp [*]; done)), H', ⟨by have := HK1.out; have := HJ11.out; omega⟩, ⟨by (with_reducible repeat (first | apply Kd.W_alloc | apply Kd.W_drewN | apply Kd.W_drew)); exact HO_0.out⟩, ⟨by repeat (first | (with_reducible first | exact HK.out | apply Kept.alloc | apply Kept.drewN | apply Kept.drew) | exact HK.out)⟩, ⟨zH⟩⟩
       ·replace c18 := Bool.eq_false_iff.mpr c18
        subst c18
        have H1 : (N1step.j2 kj11 l0 l1 (l1.length : Int) x7_1) = some (r1, r2) := by rw [if_neg (show ¬ (false = true) by decide)] at H; exact H
        clear H
        have H := H1
        clear H1
        have H' := Aside0.mk H
        clear H
        go_wp2
        repeat (go_quiet (fail); try go_wp2)
        go_meet
        case rel => exact ⟨_, (x7_1), zq1, H', ⟨by have := HK1.out; have := HJ11.out; first | omega | exact Nat.le_refl _⟩, ⟨by (with_reducible repeat (first | apply Kd.W_alloc | apply Kd.W_drewN | apply Kd.W_drew)); exact HO_0.out⟩, ⟨by repeat (first | (with_reducible first | exact HK.out | apply Kept.alloc | apply Kept.drewN | apply Kept.drew) | exact HK.out)⟩, ⟨zH⟩⟩
  case rest =>
   clear HC10
   (try clear c1); (try clear p1); (try clear q1); (try clear hx1); (try clear c2); (try clear p2); (try clear c3); (try clear c3b0); (try clear c3b1); (try clear c4); (try clear c4b0); (try clear c4b1); (try clear c6); (try clear c6b0); (try clear p6); (try clear c7); (try clear c7b0); (try clear c8); (try clear c8b0); (try clear c9); (try clear c9b0); (try clear c9b1); (try clear c10); (try clear c13); (try clear c13b0); (try clear c13b1); (try clear p14); (try clear q14); (try clear hx14); (try clear c15); (try clear c15b0); (try clear p15); (try clear q15); (try clear hx15); (try clear c16); (try clear c16b0); (try clear c17); (try clear c17b0); (try clear c18); (try clear c20); (try clear c20b0); (try clear c21); (try clear c21b0); (try clear c22); (try clear c22b0); (try clear hx148_0); (try clear hx149_0); (try clear hx150_0); (try clear hx151_0); (try clear hx152_0); (try clear hx153_0); (try clear hx154_0); (try clear p1); (try clear p14); (try clear p148); (try clear p149); (try clear p15); (try clear p150); (try clear p151); (try clear p152); (try clear p153); (try clear p154); (try clear p2); (try clear p6); (try clear q1); (try clear q14); (try clear q148); (try clear q149); (try clear q15); (try clear q150); (try clear q151); (try clear q152); (try clear q153); (try clear q154)
   obtain ⟨kq, x7_9, rfl, HA, HJ9, HO_0, HK, HB⟩ := hcut
   cases kq with
   | zero => exact absurd HA.out (by simp [N1step.j2])
   | succ kj9 =>
    have H := HA.out
    clear HA
    simp only [N1step.j2] at H
    have H' := Aside0.mk H
    clear H
    go_wp2
    repeat (go_quiet (fail); try go_wp2)
    go_loopg [9, 10, 84] kj9 (fun kq v9 v10 v84 w' => ∃ (x0_2 : List Int) (x9_2 : Int) (x10_2 : Int) (x84_2 : Int), v9 = .int .u64 x9_2 ∧ v10 = .int .u32 x10_2 ∧ v84 = .int .i64 x84_2 ∧ Aside0 (N1step.l1 kq x0_2 l1 (l1.length : Int) x7_9 x9_2 x10_2 l1 (l1.length : Int) x84_2 = some (r1, r2)) ∧ Aside0 (kq ≤ kj9) ∧ Aside0 (Kd.W pre_ post_ (Kd.int .u32) 86 w' w0.heap.size (fun k_ => (P0_ k_ ∨ w.heap.size ≤ k_)) (.slice (some ad148) l0.length co11) x0_2) ∧ Aside0 (Kept w w' (fun k_ => P0_ k_)) ∧ Aside0 (Below w0.heap.size w0 w'))
    case atStart => exact ⟨(l0), (0), (0), (0), zq1, zq1, zq1, H', ⟨Nat.le_refl _⟩, ⟨by (with_reducible repeat (first | apply Kd.W_alloc | apply Kd.W_drewN | apply Kd.W_drew)); exact HO_0.out⟩, ⟨by repeat (first | (with_reducible first | exact HK.out | apply Kept.alloc | apply Kept.drewN | apply Kept.drew) | exact HK.out)⟩, ⟨zH⟩⟩
    case round =>
     clear H'
     (try clear c1); (try clear p1); (try clear q1); (try clear hx1); (try clear c2); (try clear p2); (try clear c3); (try clear c3b0); (try clear c3b1); (try clear c4); (try clear c4b0); (try clear c4b1); (try clear c6); (try clear c6b0); (try clear p6); (try clear c7); (try clear c7b0); (try clear c8); (try clear c8b0); (try clear c9); (try clear c9b0); (try clear c9b1); (try clear c10); (try clear c13); (try clear c13b0); (try clear c13b1); (try clear p14); (try clear q14); (try clear hx14); (try clear c15); (try clear c15b0); (try clear p15); (try clear q15); (try clear hx15); (try clear c16); (try clear c16b0); (try clear c17); (try clear c17b0); (try clear c18); (try clear c20); (try clear c20b0); (try clear c21); (try clear c21b0); (try clear c22); (try clear c22b0); (try clear hx148_0); (try clear hx149_0); (try clear hx150_0); (try clear hx151_0); (try clear hx152_0); (try clear hx153_0); (try clear hx154_0); (try clear p1); (try clear p14); (try clear p148); (try clear p149); (try clear p15); (try clear p150); (try clear p151); (try clear p152); (try clear p153); (try clear p154); (try clear p2); (try clear p6); (try clear q1); (try clear q14); (try clear q148); (try clear q149); (try clear q15); (try clear q150); (try clear q151); (try clear q152); (try clear q153); (try clear q154)
     obtain ⟨x0_2, x9_2, x10_2, x84_2, rfl, rfl, rfl, HA, HK2, HO_0, HK, HB⟩ := hrel
     have hl0_2 := (Kd.W_reads' rfl HO_0.out).1
     rw [hl0_2] at HO_0
     (try simp only [hl0_2])
     cases gk with
     | zero => exact absurd HA.out (by simp [N1step.l1])
     | succ k2 =>
      have H := HA.out
      clear HA
      simp only [N1step.l1] at H
      by_cases c23 : x84_2 < (l1.length : Int)
      ·rw [if_pos c23] at H
       have c23b0 := decide_eq_true c23
       (try (have c23x0 := c23b0; simp only [hl0_2] at c23x0))
       clear c23
       replace H := of_ite H
       obtain ⟨c24, H⟩ := H
       have c24b0 := decide_eq_true c24
       clear c24
       replace H := of_ite H
       obtain ⟨c25, H⟩ := H
       have c25b0 := decide_eq_true c25
       (try (have c25x0 := c25b0; simp only [hl0_2] at c25x0))
       clear c25
       replace H := of_ite H
       obtain ⟨c26, H⟩ := H
       have c26b0 := decide_eq_true c26
       (try (have c26x0 := c26b0; simp only [hl0_2] at c26x0))
       clear c26
       replace H := Option.bind_eq_some_iff.mp H
       obtain ⟨⟨t157, t158⟩, A270, H⟩ := H
       (try dsimp only at H)
       have A27 := Aside0.mk A270
       clear A270
       obtain ⟨y159, hy159⟩ : ∃ y_ : List Int, y_ = (x0_2.set (x84_2 : Int).toNat t157) := ⟨_, rfl⟩
       replace H : (N1step.l1 k2 y159 l1 (l1.length : Int) x7_9 ((IntKind.u64.wrap ((IntKind.u64.wrap (x7_9 * (IntKind.u64.wrap (rd l1 x84_2)))) + x9_2)) / 4294967296) t158 l1 (l1.length : Int) (wrap64 (x84_2 + 1))) = some (r1, r2) := by first | (rw [hy159]; with_reducible exact H) | (have H2_ := (Option.bind_some _ _).symm.trans H; rw [hy159]; with_reducible exact H2_) | (have H2_ := (Option.bind_some _ _).symm.trans H; with_reducible exact H2_) | with_reducible exact H | (rw [hy159]; exact H) | exact H
       have Ny159 := Aside0.mk hy159
       clear hy159
       have H' := Aside0.mk H
       clear H
       have p155 : 0 ≤ (x84_2 : Int) := of_decide_eq_true zq0
       have q155 : x84_2 < (l1.length : Int) := of_decide_eq_true zq0
       obtain ⟨ad155, e155, hx155_0⟩ := Kd.at_int (Kd.C_kept_now HR1.out HK.out) x84_2 p155 q155
       obtain rfl : ad150 = ad155 := (by injection e155)
       replace p155 := eq_true p155
       replace q155 := eq_true q155
       have p156 : 0 ≤ (x84_2 : Int) := of_decide_eq_true zq0
       have q156 : x84_2 < (x0_2.length : Int) := of_decide_eq_true zq0
       obtain ⟨ad156, e156, hx156_0⟩ := Kd.at_int (Kd.W_reads' rfl HO_0.out).2.2 x84_2 p156 q156
       obtain rfl : ad148 = ad156 := (by injection e156)
       replace p156 := eq_true p156
       replace q156 := eq_true q156
       go_wp2_with (first | (go_at_call 102; (with_reducible refine (bits_Sub32.calls (rd x0_2 x84_2) ((IntKind.u64.wrap ((IntKind.u64.wrap (x7_9 * (IntKind.u64.wrap (rd l1 x84_2)))) + x9_2)) % 4294967296) x10_2 t157 t158 _ A27.out).mono ?_); rintro e w' ⟨rfl, ⟨nd, rfl⟩⟩; (try first | exact ⟨rfl, _, World.drewN_drewN _ _ _⟩ | exact ⟨rfl, _, Eq.trans (World.drewN_drewN _ _ _) (congrArg (World.drewN _) (Nat.add_assoc _ _ _))⟩); have p28 : 0 ≤ (x84_2 : Int) := of_decide_eq_true zq0; have q28 : (x84_2 : Int) < ((x0_2.length : Int) : Int) := of_decide_eq_true zq0; obtain ⟨go28, oo28, co28, eo28, gb28, gl28, cl28, HG28⟩ := Kd.W_form HO_0.out (by omega); (first | cases eo28 | (injection eo28 with ea_ en_ ec_; (first | subst ea_ | (injection ea_ with ea_; subst ea_)); subst ec_; clear en_)); have GB28 := Aside0.mk gb28; have GG28 := Aside0.mk HG28; clear gb28 gl28 HG28; have HMgo28 := Aside0.mk (show (P0_ go28 ∨ w.heap.size ≤ go28) from (HO_0.out.1 _ rfl)); (first | simp only [add_at] at hx148_0 | skip); (first | simp only [add_at] at hx149_0 | skip); (first | simp only [add_at] at hx153_0 | skip); (first | simp only [add_at] at hx156_0 | skip); obtain ⟨hx28_0, hf28_0⟩ := Kd.W_cell 0 HO_0.out (x84_2 : Int) p28 q28; replace p28 := eq_true p28; replace q28 := eq_true q28; obtain ⟨hy29_, hz29_⟩ := Kd.W_cell 0 HO_0.out (x84_2 : Int) (of_decide_eq_true zq0) (of_decide_eq_true zq0); have HP29 := Kd.W_putg HO_0.out (x84_2 : Int) (of_decide_eq_true zq0) zq13 t157) | ((with_reducible refine gate_store (t := 86) (p := 110) rfl ?_); (try (rw [drewN_self wr]; generalize hq_ : World.drewN wr _ = wr; have n0_ := Aside0.mk (Kd.W_at hq_ HO_0.out); have n1_ := Aside0.mk (kept_at hq_ HK.out); have n2_ := Aside0.mk (below_at hq_ HB.out); clear hq_ HO_0 HK HB; have HO_0 := n0_; have HK := n1_; have HB := n2_; clear n0_ n1_ n2_; (try (obtain ⟨hy29_, hz29_⟩ := Kd.W_cell 0 HO_0.out (x84_2 : Int) (of_decide_eq_true zq0) (of_decide_eq_true zq0))); (try (have HP29 := Kd.W_putg HO_0.out (x84_2 : Int) (of_decide_eq_true zq0) zq13 t157)))); refine store_event (t := 86) (p := 110) (v := ?vo_w30) (w1 := (wr.setCell ⟨go28, oo28 + (x84_2 : Int).toNat, none⟩ (.int .u32 t157))) ?hg ?ho ?hn ?hr ?_; (case ho => rfl); (case hg => rfl); (case hn => rfl); (case hr => first | (go_simp; done) | (go_simp; rfl)); intro w30 hw; have hg : wr.grownBy w30 (some go28) := (by rw [hw]; exact HP29.2); have hp_ : Kd.W pre_ post_ (Kd.int .u32) 86 w30 w0.heap.size (fun k_ => (P0_ k_ ∨ w.heap.size ≤ k_)) (.slice (some ⟨go28, oo28, none⟩) x0_2.length co11) y159 := (by rw [hw, Ny159.out]; exact HP29.1); clear HP29; have n0_ := Aside0.mk (hp_); have n1_ := Aside0.mk ((by rw [hw]; exact below_set (HB.out) GB28.out : Below w0.heap.size w0 w30)); have n2_ := Aside0.mk (Kept.of_grown (S := (fun k_ => P0_ k_)) hg zq4 (fun k_ e_ => (HO_0.out.1 k_ e_))); revert n0_ n1_ n2_; clear HO_0 HB HK; intro HO_0 HB HK; clear hg hw hp_))
       repeat (go_quiet (first | (go_at_call 102; (with_reducible refine (bits_Sub32.calls (rd x0_2 x84_2) ((IntKind.u64.wrap ((IntKind.u64.wrap (x7_9 * (IntKind.u64.wrap (rd l1 x84_2)))) + x9_2)) % 4294967296) x10_2 t157 t158 _ A27.out).mono ?_); rintro e w' ⟨rfl, ⟨nd, rfl⟩⟩; (try first | exact ⟨rfl, _, World.drewN_drewN _ _ _⟩ | exact ⟨rfl, _, Eq.trans (World.drewN_drewN _ _ _) (congrArg (World.drewN _) (Nat.add_assoc _ _ _))⟩); have p28 : 0 ≤ (x84_2 : Int) := of_decide_eq_true zq0; have q28 : (x84_2 : Int) < ((x0_2.length : Int) : Int) := of_decide_eq_true zq0; obtain ⟨go28, oo28, co28, eo28, gb28, gl28, cl28, HG28⟩ := Kd.W_form HO_0.out (by omega); (first | cases eo28 | (injection eo28 with ea_ en_ ec_; (first | subst ea_ | (injection ea_ with ea_; subst ea_)); subst ec_; clear en_)); have GB28 := Aside0.mk gb28; have GG28 := Aside0.mk HG28; clear gb28 gl28 HG28; have HMgo28 := Aside0.mk (show (P0_ go28 ∨ w.heap.size ≤ go28) from (HO_0.out.1 _ rfl)); (first | simp only [add_at] at hx148_0 | skip); (first | simp only [add_at] at hx149_0 | skip); (first | simp only [add_at] at hx153_0 | skip); (first | simp only [add_at] at hx156_0 | skip); obtain ⟨hx28_0, hf28_0⟩ := Kd.W_cell 0 HO_0.out (x84_2 : Int) p28 q28; replace p28 := eq_true p28; replace q28 := eq_true q28; obtain ⟨hy29_, hz29_⟩ := Kd.W_cell 0 HO_0.out (x84_2 : Int) (of_decide_eq_true zq0) (of_decide_eq_true zq0); have HP29 := Kd.W_putg HO_0.out (x84_2 : Int) (of_decide_eq_true zq0) zq13 t157) | ((with_reducible refine gate_store (t := 86) (p := 110) rfl ?_); (try (rw [drewN_self wr]; generalize hq_ : World.drewN wr _ = wr; have n0_ := Aside0.mk (Kd.W_at hq_ HO_0.out); have n1_ := Aside0.mk (kept_at hq_ HK.out); have n2_ := Aside0.mk (below_at hq_ HB.out); clear hq_ HO_0 HK HB; have HO_0 := n0_; have HK := n1_; have HB := n2_; clear n0_ n1_ n2_; (try (obtain ⟨hy29_, hz29_⟩ := Kd.W_cell 0 HO_0.out (x84_2 : Int) (of_decide_eq_true zq0) (of_decide_eq_true zq0))); (try (have HP29 := Kd.W_putg HO_0.out (x84_2 : Int) (of_decide_eq_true zq0) zq13 t157)))); refine store_event (t := 86) (p := 110) (v := ?vo_w30) (w1 := (wr.setCell ⟨go28, oo28 + (x84_2 : Int).toNat, none⟩ (.int .u32 t157))) ?hg ?ho ?hn ?hr ?_; (case ho => rfl); (case hg => rfl); (case hn => rfl); (case hr => first | (go_simp; done) | (go_simp; rfl)); intro w30 hw; have hg : wr.grownBy w30 (some go28) := (by rw [hw]; exact HP29.2); have hp_ : Kd.W pre_ post_ (Kd.int .u32) 86 w30 w0.heap.size (fun k_ => (P0_ k_ ∨ w.heap.size ≤ k_)) (.slice (some ⟨go28, oo28, none⟩) x0_2.length co11) y159 := (by rw [hw, Ny159.out]; exact HP29.1); clear HP29; have n0_ := Aside0.mk (hp_); have n1_ := Aside0.mk ((by rw [hw]; exact below_set (HB.out) GB28.out : Below w0.heap.size w0 w30)); have n2_ := Aside0.mk (Kept.of_grown (S := (fun k_ => P0_ k_)) hg zq4 (fun k_ e_ => (HO_0.out.1 k_ e_))); revert n0_ n1_ n2_; clear HO_0 HB HK; intro HO_0 HB HK; clear hg hw hp_)); try go_wp2_with (first | (go_at_call 102; (with_reducible refine (bits_Sub32.calls (rd x0_2 x84_2) ((IntKind.u64.wrap ((IntKind.u64.wrap (x7_9 * (IntKind.u64.wrap (rd l1 x84_2)))) + x9_2)) % 4294967296) x10_2 t157 t158 _ A27.out).mono ?_); rintro e w' ⟨rfl, ⟨nd, rfl⟩⟩; (try first | exact ⟨rfl, _, World.drewN_drewN _ _ _⟩ | exact ⟨rfl, _, Eq.trans (World.drewN_drewN _ _ _) (congrArg (World.drewN _) (Nat.add_assoc _ _ _))⟩); have p28 : 0 ≤ (x84_2 : Int) := of_decide_eq_true zq0; have q28 : (x84_2 : Int) < ((x0_2.length : Int) : Int) := of_decide_eq_true zq0; obtain ⟨go28, oo28, co28, eo28, gb28, gl28, cl28, HG28⟩ := Kd.W_form HO_0.out (by omega); (first | cases eo28 | (injection eo28 with ea_ en_ ec_; (first | subst ea_ | (injection ea_ with ea_; subst ea_)); subst ec_; clear en_)); have GB28 := Aside0.mk gb28; have GG28 := Aside0.mk HG28; clear gb28 gl28 HG28; have HMgo28 := Aside0.mk (show (P0_ go28 ∨ w.heap.size ≤ go28) from (HO_0.out.1 _ rfl)); (first | simp only [add_at] at hx148_0 | skip); (first | simp only [add_at] at hx149_0 | skip); (first | simp only [add_at] at hx153_0 | skip); (first | simp only [add_at] at hx156_0 | skip); obtain ⟨hx28_0, hf28_0⟩ := Kd.W_cell 0 HO_0.out (x84_2 : Int) p28 q28; replace p28 := eq_true p28; replace q28 := eq_true q28; obtain ⟨hy29_, hz29_⟩ := Kd.W_cell 0 HO_0.out (x84_2 : Int) (of_decide_eq_true zq0) (of_decide_eq_true zq0); have HP29 := Kd.W_putg HO_0.out (x84_2 : Int) (of_decide_eq_true zq0) zq13 t157) | ((with_reducible refine gate_store (t := 86) (p := 110) rfl ?_); (try (rw [drewN_self wr]; generalize hq_ : World.drewN wr _ = wr; have n0_ := Aside0.mk (Kd.W_at hq_ HO_0.out); have n1_ := Aside0.mk (kept_at hq_ HK.out); have n2_ := Aside0.mk (below_at hq_ HB.out); clear hq_ HO_0 HK HB; have HO_0 := n0_; have HK := n1_; have HB := n2_; clear n0_ n1_ n2_; (try (obtain ⟨hy29_, hz29_⟩ := Kd.W_cell 0 HO_0.out (x84_2 : Int) (of_decide_eq_true zq0) (of_decide_eq_true zq0))); (try (have HP29 := Kd.W_putg HO_0.out (x84_2 : Int) (of_decide_eq_true zq0) zq13 t157)))); refine store_event (t := 86) (p := 110) (v := ?vo_w30) (w1 := (wr.setCell ⟨go28, oo28 + (x84_2 : Int).toNat, none⟩ (.int .u32 t157))) ?hg ?ho ?hn ?hr ?_; (case ho => rfl); (case hg => rfl); (case hn => rfl); (case hr => first | (go_simp; done) | (go_simp; rfl)); intro w30 hw; have hg : wr.grownBy w30 (some go28) := (by rw [hw]; exact HP29.2); have hp_ : Kd.W pre_ post_ (Kd.int .u32) 86 w30 w0.heap.size (fun k_ => (P0_ k_ ∨ w.heap.size ≤ k_)) (.slice (some ⟨go28, oo28, none⟩) x0_2.length co11) y159 := (by rw [hw, Ny159.out]; exact HP29.1); clear HP29; have n0_ := Aside0.mk (hp_); have n1_ := Aside0.mk ((by rw [hw]; exact below_set (HB.out) GB28.out : Below w0.heap.size w0 w30)); have n2_ := Aside0.mk (Kept.of_grown (S := (fun k_ => P0_ k_)) hg zq4 (fun k_ e_ => (HO_0.out.1 k_ e_))); revert n0_ n1_ n2_; clear HO_0 HB HK; intro HO_0 HB HK; clear hg hw hp_)))
       (try simp only [← hl0_2])
       (refine Handed.intro k2 ?measure ?_; rotate_left; go_step; (repeat apply Exists.intro); refine ⟨?rel, (by first | rfl | (simp only [add_at]; rfl))⟩)
       case measure => have := HJ9.out; have := HK2.out; omega
       case rel => exact ⟨(y159), ((IntKind.u64.wrap ((IntKind.u64.wrap (x7_9 * (IntKind.u64.wrap (rd l1 x84_2)))) + x9_2)) / 4294967296), (t158), (wrap64 (x84_2 + 1)), zq1, zq1, zq1, H', ⟨by have := HJ9.out; have := HK2.out; omega⟩, ⟨by (try simp only [hl0_2]); (with_reducible repeat (first | apply Kd.W_alloc | apply Kd.W_drewN | apply Kd.W_drew)); exact HO_0.out⟩, ⟨by repeat (first | (with_reducible first | exact HK.out | apply Kept.alloc | apply Kept.drewN | apply Kept.drew) | exact HK.out)⟩, ⟨zH⟩⟩
      ·rw [if_neg c23] at H
       have c23b0 := decide_eq_false c23
       (try (have c23x0 := c23b0; simp only [hl0_2] at c23x0))
       clear c23
       replace H := of_ite H
       obtain ⟨c31, H⟩ := H
       have c31b0 := decide_eq_true c31
       have c31b1 : decide (0 ≤ l1.length) = true := decide_eq_true (by omega)
       (try (have c31x0 := c31b0; simp only [hl0_2] at c31x0))
       (try (have c31x1 := c31b1; simp only [hl0_2] at c31x1))
       clear c31
       replace H := of_ite H
       obtain ⟨c32, H⟩ := H
       have c32b0 := decide_eq_true c32
       have c32b1 : decide (l1.length < x0_2.length) = true := decide_eq_true (Int.ofNat_lt.mp c32)
       (try (have c32x0 := c32b0; simp only [hl0_2] at c32x0))
       (try (have c32x1 := c32b1; simp only [hl0_2] at c32x1))
       clear c32
       replace H := Option.bind_eq_some_iff.mp H
       obtain ⟨⟨t161, t162⟩, A330, H⟩ := H
       (try dsimp only at H)
       have A33 := Aside0.mk A330
       clear A330
       obtain ⟨y163, hy163⟩ : ∃ y_ : List Int, y_ = (x0_2.set ((l1.length : Int) : Int).toNat t161) := ⟨_, rfl⟩
       replace H : (if t162 = 0 then (some ((x7_9) % 4294967296, y163)) else (N1step.l2 k2 y163 (l1.length : Int) x7_9 0 l1 (l1.length : Int) 0)) = some (r1, r2) := by first | (rw [hy163]; with_reducible exact H) | (have H2_ := (Option.bind_some _ _).symm.trans H; rw [hy163]; with_reducible exact H2_) | (have H2_ := (Option.bind_some _ _).symm.trans H; with_reducible exact H2_) | with_reducible exact H | (rw [hy163]; exact H) | exact H
       have Ny163 := Aside0.mk hy163
       clear hy163
       by_cases c35 : t162 = 0
       ·rw [if_pos c35] at H
        have c35b0 := beq_iff_eq.mpr c35
        have c35b1 : (t162 != 0) = false := bne_eq_false_iff_eq.mpr c35
        clear c35
        simp only [Option.some.injEq, Prod.mk.injEq] at H
        obtain ⟨rfl, rfl⟩ := H
        have p160 : 0 ≤ ((l1.length : Int) : Int) := of_decide_eq_true zq0
        have q160 : (l1.length : Int) < (x0_2.length : Int) := of_decide_eq_true zq0
        obtain ⟨ad160, e160, hx160_0⟩ := Kd.at_int (Kd.W_reads' rfl HO_0.out).2.2 (l1.length : Int) p160 q160
        obtain rfl : ad148 = ad160 := (by injection e160)
        (try simp only [Go.IntWalk.toNatUp] at hx160_0)
        (try simp only [hl0_2] at p160)
        (try simp only [hl0_2] at q160)
        (try simp only [hl0_2] at hx160_0)
        replace p160 := eq_true p160
        replace q160 := eq_true q160
        go_wp2_with (first | (go_at_call 102; (with_reducible refine (bits_Sub32.calls (rd x0_2 (l1.length : Int)) ((x9_2) % 4294967296) x10_2 t161 t162 _ A33.out).mono ?_); rintro e w' ⟨rfl, ⟨nd, rfl⟩⟩; (try first | exact ⟨rfl, _, World.drewN_drewN _ _ _⟩ | exact ⟨rfl, _, Eq.trans (World.drewN_drewN _ _ _) (congrArg (World.drewN _) (Nat.add_assoc _ _ _))⟩); have p34 : 0 ≤ ((l1.length : Int) : Int) := of_decide_eq_true zq0; have q34 : ((l1.length : Int) : Int) < ((x0_2.length : Int) : Int) := of_decide_eq_true zq0; obtain ⟨go34, oo34, co34, eo34, gb34, gl34, cl34, HG34⟩ := Kd.W_form HO_0.out (by omega); (first | cases eo34 | (injection eo34 with ea_ en_ ec_; (first | subst ea_ | (injection ea_ with ea_; subst ea_)); subst ec_; clear en_)); have GB34 := Aside0.mk gb34; have GG34 := Aside0.mk HG34; clear gb34 gl34 HG34; have HMgo34 := Aside0.mk (show (P0_ go34 ∨ w.heap.size ≤ go34) from (HO_0.out.1 _ rfl)); (first | simp only [add_at] at hx160_0 | skip); obtain ⟨hx34_0, hf34_0⟩ := Kd.W_cell 0 HO_0.out ((l1.length : Int) : Int) p34 q34; replace p34 := eq_true p34; replace q34 := eq_true q34; obtain ⟨hy36_, hz36_⟩ := Kd.W_cell 0 HO_0.out ((l1.length : Int) : Int) (of_decide_eq_true zq0) (of_decide_eq_true zq0); (try simp only [Go.IntWalk.toNatUp] at hy36_ hz36_); have HP36 := Kd.W_putg HO_0.out ((l1.length : Int) : Int) (of_decide_eq_true zq0) zq5 t161) | ((with_reducible refine gate_store (t := 86) (p := 125) rfl ?_); (try (rw [drewN_self wr]; generalize hq_ : World.drewN wr _ = wr; have n0_ := Aside0.mk (Kd.W_at hq_ HO_0.out); have n1_ := Aside0.mk (kept_at hq_ HK.out); have n2_ := Aside0.mk (below_at hq_ HB.out); clear hq_ HO_0 HK HB; have HO_0 := n0_; have HK := n1_; have HB := n2_; clear n0_ n1_ n2_; (try (obtain ⟨hy36_, hz36_⟩ := Kd.W_cell 0 HO_0.out ((l1.length : Int) : Int) (of_decide_eq_true zq0) (of_decide_eq_true zq0))); (try (try simp only [Go.IntWalk.toNatUp] at hy36_ hz36_)); (try (have HP36 := Kd.W_putg HO_0.out ((l1.length : Int) : Int) (of_decide_eq_true zq0) zq5 t161)))); refine store_event (t := 86) (p := 125) (v := ?vo_w37) (w1 := (wr.setCell ⟨go34, oo34 + ((l1.length : Int) : Int).toNat, none⟩ (.int .u32 t161))) ?hg ?ho ?hn ?hr ?_; (case ho => rfl); (case hg => rfl); (case hn => rfl); (case hr => first | (go_simp; done) | (go_simp; rfl)); intro w37 hw; have hg : wr.grownBy w37 (some go34) := (by rw [hw]; exact HP36.2); have hp_ : Kd.W pre_ post_ (Kd.int .u32) 86 w37 w0.heap.size (fun k_ => (P0_ k_ ∨ w.heap.size ≤ k_)) (.slice (some ⟨go34, oo34, none⟩) x0_2.length co11) y163 := (by rw [hw, Ny163.out]; exact HP36.1); clear HP36; have n0_ := Aside0.mk (hp_); have n1_ := Aside0.mk ((by rw [hw]; exact below_set (HB.out) GB34.out : Below w0.heap.size w0 w37)); have n2_ := Aside0.mk (Kept.of_grown (S := (fun k_ => P0_ k_)) hg zq4 (fun k_ e_ => (HO_0.out.1 k_ e_))); revert n0_ n1_ n2_; clear HO_0 HB HK; intro HO_0 HB HK; clear hg hw hp_))
        repeat (go_quiet (first | (go_at_call 102; (with_reducible refine (bits_Sub32.calls (rd x0_2 (l1.length : Int)) ((x9_2) % 4294967296) x10_2 t161 t162 _ A33.out).mono ?_); rintro e w' ⟨rfl, ⟨nd, rfl⟩⟩; (try first | exact ⟨rfl, _, World.drewN_drewN _ _ _⟩ | exact ⟨rfl, _, Eq.trans (World.drewN_drewN _ _ _) (congrArg (World.drewN _) (Nat.add_assoc _ _ _))⟩); have p34 : 0 ≤ ((l1.length : Int) : Int) := of_decide_eq_true zq0; have q34 : ((l1.length : Int) : Int) < ((x0_2.length : Int) : Int) := of_decide_eq_true zq0; obtain ⟨go34, oo34, co34, eo34, gb34, gl34, cl34, HG34⟩ := Kd.W_form HO_0.out (by omega); (first | cases eo34 | (injection eo34 with ea_ en_ ec_; (first | subst ea_ | (injection ea_ with ea_; subst ea_)); subst ec_; clear en_)); have GB34 := Aside0.mk gb34; have GG34 := Aside0.mk HG34; clear gb34 gl34 HG34; have HMgo34 := Aside0.mk (show (P0_ go34 ∨ w.heap.size ≤ go34) from (HO_0.out.1 _ rfl)); (first | simp only [add_at] at hx160_0 | skip); obtain ⟨hx34_0, hf34_0⟩ := Kd.W_cell 0 HO_0.out ((l1.length : Int) : Int) p34 q34; replace p34 := eq_true p34; replace q34 := eq_true q34; obtain ⟨hy36_, hz36_⟩ := Kd.W_cell 0 HO_0.out ((l1.length : Int) : Int) (of_decide_eq_true zq0) (of_decide_eq_true zq0); (try simp only [Go.IntWalk.toNatUp] at hy36_ hz36_); have HP36 := Kd.W_putg HO_0.out ((l1.length : Int) : Int) (of_decide_eq_true zq0) zq5 t161) | ((with_reducible refine gate_store (t := 86) (p := 125) rfl ?_); (try (rw [drewN_self wr]; generalize hq_ : World.drewN wr _ = wr; have n0_ := Aside0.mk (Kd.W_at hq_ HO_0.out); have n1_ := Aside0.mk (kept_at hq_ HK.out); have n2_ := Aside0.mk (below_at hq_ HB.out); clear hq_ HO_0 HK HB; have HO_0 := n0_; have HK := n1_; have HB := n2_; clear n0_ n1_ n2_; (try (obtain ⟨hy36_, hz36_⟩ := Kd.W_cell 0 HO_0.out ((l1.length : Int) : Int) (of_decide_eq_true zq0) (of_decide_eq_true zq0))); (try (try simp only [Go.IntWalk.toNatUp] at hy36_ hz36_)); (try (have HP36 := Kd.W_putg HO_0.out ((l1.length : Int) : Int) (of_decide_eq_true zq0) zq5 t161)))); refine store_event (t := 86) (p := 125) (v := ?vo_w37) (w1 := (wr.setCell ⟨go34, oo34 + ((l1.length : Int) : Int).toNat, none⟩ (.int .u32 t161))) ?hg ?ho ?hn ?hr ?_; (case ho => rfl); (case hg => rfl); (case hn => rfl); (case hr => first | (go_simp; done) | (go_simp; rfl)); intro w37 hw; have hg : wr.grownBy w37 (some go34) := (by rw [hw]; exact HP36.2); have hp_ : Kd.W pre_ post_ (Kd.int .u32) 86 w37 w0.heap.size (fun k_ => (P0_ k_ ∨ w.heap.size ≤ k_)) (.slice (some ⟨go34, oo34, none⟩) x0_2.length co11) y163 := (by rw [hw, Ny163.out]; exact HP36.1); clear HP36; have n0_ := Aside0.mk (hp_); have n1_ := Aside0.mk ((by rw [hw]; exact below_set (HB.out) GB34.out : Below w0.heap.size w0 w37)); have n2_ := Aside0.mk (Kept.of_grown (S := (fun k_ => P0_ k_)) hg zq4 (fun k_ e_ => (HO_0.out.1 k_ e_))); revert n0_ n1_ n2_; clear HO_0 HB HK; intro HO_0 HB HK; clear hg hw hp_)); try go_wp2_with (first | (go_at_call 102; (with_reducible refine (bits_Sub32.calls (rd x0_2 (l1.length : Int)) ((x9_2) % 4294967296) x10_2 t161 t162 _ A33.out).mono ?_); rintro e w' ⟨rfl, ⟨nd, rfl⟩⟩; (try first | exact ⟨rfl, _, World.drewN_drewN _ _ _⟩ | exact ⟨rfl, _, Eq.trans (World.drewN_drewN _ _ _) (congrArg (World.drewN _) (Nat.add_assoc _ _ _))⟩); have p34 : 0 ≤ ((l1.length : Int) : Int) := of_decide_eq_true zq0; have q34 : ((l1.length : Int) : Int) < ((x0_2.length : Int) : Int) := of_decide_eq_true zq0; obtain ⟨go34, oo34, co34, eo34, gb34, gl34, cl34, HG34⟩ := Kd.W_form HO_0.out (by omega); (first | cases eo34 | (injection eo34 with ea_ en_ ec_; (first | subst ea_ | (injection ea_ with ea_; subst ea_)); subst ec_; clear en_)); have GB34 := Aside0.mk gb34; have GG34 := Aside0.mk HG34; clear gb34 gl34 HG34; have HMgo34 := Aside0.mk (show (P0_ go34 ∨ w.heap.size ≤ go34) from (HO_0.out.1 _ rfl)); (first | simp only [add_at] at hx160_0 | skip); obtain ⟨hx34_0, hf34_0⟩ := Kd.W_cell 0 HO_0.out ((l1.length : Int) : Int) p34 q34; replace p34 := eq_true p34; replace q34 := eq_true q34; obtain ⟨hy36_, hz36_⟩ := Kd.W_cell 0 HO_0.out ((l1.length : Int) : Int) (of_decide_eq_true zq0) (of_decide_eq_true zq0); (try simp only [Go.IntWalk.toNatUp] at hy36_ hz36_); have HP36 := Kd.W_putg HO_0.out ((l1.length : Int) : Int) (of_decide_eq_true zq0) zq5 t161) | ((with_reducible refine gate_store (t := 86) (p := 125) rfl ?_); (try (rw [drewN_self wr]; generalize hq_ : World.drewN wr _ = wr; have n0_ := Aside0.mk (Kd.W_at hq_ HO_0.out); have n1_ := Aside0.mk (kept_at hq_ HK.out); have n2_ := Aside0.mk (below_at hq_ HB.out); clear hq_ HO_0 HK HB; have HO_0 := n0_; have HK := n1_; have HB := n2_; clear n0_ n1_ n2_; (try (obtain ⟨hy36_, hz36_⟩ := Kd.W_cell 0 HO_0.out ((l1.length : Int) : Int) (of_decide_eq_true zq0) (of_decide_eq_true zq0))); (try (try simp only [Go.IntWalk.toNatUp] at hy36_ hz36_)); (try (have HP36 := Kd.W_putg HO_0.out ((l1.length : Int) : Int) (of_decide_eq_true zq0) zq5 t161)))); refine store_event (t := 86) (p := 125) (v := ?vo_w37) (w1 := (wr.setCell ⟨go34, oo34 + ((l1.length : Int) : Int).toNat, none⟩ (.int .u32 t161))) ?hg ?ho ?hn ?hr ?_; (case ho => rfl); (case hg => rfl); (case hn => rfl); (case hr => first | (go_simp; done) | (go_simp; rfl)); intro w37 hw; have hg : wr.grownBy w37 (some go34) := (by rw [hw]; exact HP36.2); have hp_ : Kd.W pre_ post_ (Kd.int .u32) 86 w37 w0.heap.size (fun k_ => (P0_ k_ ∨ w.heap.size ≤ k_)) (.slice (some ⟨go34, oo34, none⟩) x0_2.length co11) y163 := (by rw [hw, Ny163.out]; exact HP36.1); clear HP36; have n0_ := Aside0.mk (hp_); have n1_ := Aside0.mk ((by rw [hw]; exact below_set (HB.out) GB34.out : Below w0.heap.size w0 w37)); have n2_ := Aside0.mk (Kept.of_grown (S := (fun k_ => P0_ k_)) hg zq4 (fun k_ e_ => (HO_0.out.1 k_ e_))); revert n0_ n1_ n2_; clear HO_0 HB HK; intro HO_0 HB HK; clear hg hw hp_)))
        go_ret
        exact ⟨by first | rfl | (simp [errW_none, errW_some] <;> rfl) | (simp only [← hji5]; first | rfl | (simp [errW_none, errW_some] <;> rfl)) | (simp [*, errW_none, errW_some] <;> rfl), (by first | exact zq20 | (simp only [hl0_2]; exact zq20)), zH, by repeat (first | (with_reducible first | exact HK.out | apply Kept.alloc | apply Kept.drewN | apply Kept.drew) | exact HK.out)⟩
       ·rw [if_neg c35] at H
        have c35b0 := beq_eq_false_iff_ne.mpr c35
        have c35b1 := bne_iff_ne.mpr c35
        have H' := Aside0.mk H
        clear H
        have p160 : 0 ≤ ((l1.length : Int) : Int) := of_decide_eq_true zq0
        have q160 : (l1.length : Int) < (x0_2.length : Int) := of_decide_eq_true zq0
        obtain ⟨ad160, e160, hx160_0⟩ := Kd.at_int (Kd.W_reads' rfl HO_0.out).2.2 (l1.length : Int) p160 q160
        obtain rfl : ad148 = ad160 := (by injection e160)
        (try simp only [Go.IntWalk.toNatUp] at hx160_0)
        (try simp only [hl0_2] at p160)
        (try simp only [hl0_2] at q160)
        (try simp only [hl0_2] at hx160_0)
        replace p160 := eq_true p160
        replace q160 := eq_true q160
        go_wp2_with (first | (go_at_call 102; (with_reducible refine (bits_Sub32.calls (rd x0_2 (l1.length : Int)) ((x9_2) % 4294967296) x10_2 t161 t162 _ A33.out).mono ?_); rintro e w' ⟨rfl, ⟨nd, rfl⟩⟩; (try first | exact ⟨rfl, _, World.drewN_drewN _ _ _⟩ | exact ⟨rfl, _, Eq.trans (World.drewN_drewN _ _ _) (congrArg (World.drewN _) (Nat.add_assoc _ _ _))⟩); have p34 : 0 ≤ ((l1.length : Int) : Int) := of_decide_eq_true zq0; have q34 : ((l1.length : Int) : Int) < ((x0_2.length : Int) : Int) := of_decide_eq_true zq0; obtain ⟨go34, oo34, co34, eo34, gb34, gl34, cl34, HG34⟩ := Kd.W_form HO_0.out (by omega); (first | cases eo34 | (injection eo34 with ea_ en_ ec_; (first | subst ea_ | (injection ea_ with ea_; subst ea_)); subst ec_; clear en_)); have GB34 := Aside0.mk gb34; have GG34 := Aside0.mk HG34; clear gb34 gl34 HG34; have HMgo34 := Aside0.mk (show (P0_ go34 ∨ w.heap.size ≤ go34) from (HO_0.out.1 _ rfl)); (first | simp only [add_at] at hx160_0 | skip); obtain ⟨hx34_0, hf34_0⟩ := Kd.W_cell 0 HO_0.out ((l1.length : Int) : Int) p34 q34; replace p34 := eq_true p34; replace q34 := eq_true q34; obtain ⟨hy38_, hz38_⟩ := Kd.W_cell 0 HO_0.out ((l1.length : Int) : Int) (of_decide_eq_true zq0) (of_decide_eq_true zq0); (try simp only [Go.IntWalk.toNatUp] at hy38_ hz38_); have HP38 := Kd.W_putg HO_0.out ((l1.length : Int) : Int) (of_decide_eq_true zq0) zq5 t161) | ((with_reducible refine gate_store (t := 86) (p := 125) rfl ?_); (try (rw [drewN_self wr]; generalize hq_ : World.drewN wr _ = wr; have n0_ := Aside0.mk (Kd.W_at hq_ HO_0.out); have n1_ := Aside0.mk (kept_at hq_ HK.out); have n2_ := Aside0.mk (below_at hq_ HB.out); clear hq_ HO_0 HK HB; have HO_0 := n0_; have HK := n1_; have HB := n2_; clear n0_ n1_ n2_; (try (obtain ⟨hy38_, hz38_⟩ := Kd.W_cell 0 HO_0.out ((l1.length : Int) : Int) (of_decide_eq_true zq0) (of_decide_eq_true zq0))); (try (try simp only [Go.IntWalk.toNatUp] at hy38_ hz38_)); (try (have HP38 := Kd.W_putg HO_0.out ((l1.length : Int) : Int) (of_decide_eq_true zq0) zq5 t161)))); refine store_event (t := 86) (p := 125) (v := ?vo_w39) (w1 := (wr.setCell ⟨go34, oo34 + ((l1.length : Int) : Int).toNat, none⟩ (.int .u32 t161))) ?hg ?ho ?hn ?hr ?_; (case ho => rfl); (case hg => rfl); (case hn => rfl); (case hr => first | (go_simp; done) | (go_simp; rfl)); intro w39 hw; have hg : wr.grownBy w39 (some go34) := (by rw [hw]; exact HP38.2); have hp_ : Kd.W pre_ post_ (Kd.int .u32) 86 w39 w0.heap.size (fun k_ => (P0_ k_ ∨ w.heap.size ≤ k_)) (.slice (some ⟨go34, oo34, none⟩) x0_2.length co11) y163 := (by rw [hw, Ny163.out]; exact HP38.1); clear HP38; have n0_ := Aside0.mk (hp_); have n1_ := Aside0.mk ((by rw [hw]; exact below_set (HB.out) GB34.out : Below w0.heap.size w0 w39)); have n2_ := Aside0.mk (Kept.of_grown (S := (fun k_ => P0_ k_)) hg zq4 (fun k_ e_ => (HO_0.out.1 k_ e_))); revert n0_ n1_ n2_; clear HO_0 HB HK; intro HO_0 HB HK; clear hg hw hp_))
        repeat (go_quiet (first | (go_at_call 102; (with_reducible refine (bits_Sub32.calls (rd x0_2 (l1.length : Int)) ((x9_2) % 4294967296) x10_2 t161 t162 _ A33.out).mono ?_); rintro e w' ⟨rfl, ⟨nd, rfl⟩⟩; (try first | exact ⟨rfl, _, World.drewN_drewN _ _ _⟩ | exact ⟨rfl, _, Eq.trans (World.drewN_drewN _ _ _) (congrArg (World.drewN _) (Nat.add_assoc _ _ _))⟩); have p34 : 0 ≤ ((l1.length : Int) : Int) := of_decide_eq_true zq0; have q34 : ((l1.length : Int) : Int) < ((x0_2.length : Int) : Int) := of_decide_eq_true zq0; obtain ⟨go34, oo34, co34, eo34, gb34, gl34, cl34, HG34⟩ := Kd.W_form HO_0.out (by omega); (first | cases eo34 | (injection eo34 with ea_ en_ ec_; (first | subst ea_ | (injection ea_ with ea_; subst ea_)); subst ec_; clear en_)); have GB34 := Aside0.mk gb34; have GG34 := Aside0.mk HG34; clear gb34 gl34 HG34; have HMgo34 := Aside0.mk (show (P0_ go34 ∨ w.heap.size ≤ go34) from (HO_0.out.1 _ rfl)); (first | simp only [add_at] at hx160_0 | skip); obtain ⟨hx34_0, hf34_0⟩ := Kd.W_cell 0 HO_0.out ((l1.length : Int) : Int) p34 q34; replace p34 := eq_true p34; replace q34 := eq_true q34; obtain ⟨hy38_, hz38_⟩ := Kd.W_cell 0 HO_0.out ((l1.length : Int) : Int) (of_decide_eq_true zq0) (of_decide_eq_true zq0); (try simp only [Go.IntWalk.toNatUp] at hy38_ hz38_); have HP38 := Kd.W_putg HO_0.out ((l1.length : Int) : Int) (of_decide_eq_true zq0) zq5 t161) | ((with_reducible refine gate_store (t := 86) (p := 125) rfl ?_); (try (rw [drewN_self wr]; generalize hq_ : World.drewN wr _ = wr; have n0_ := Aside0.mk (Kd.W_at hq_ HO_0.out); have n1_ := Aside0.mk (kept_at hq_ HK.out); have n2_ := Aside0.mk (below_at hq_ HB.out); clear hq_ HO_0 HK HB; have HO_0 := n0_; have HK := n1_; have HB := n2_; clear n0_ n1_ n2_; (try (obtain ⟨hy38_, hz38_⟩ := Kd.W_cell 0 HO_0.out ((l1.length : Int) : Int) (of_decide_eq_true zq0) (of_decide_eq_true zq0))); (try (try simp only [Go.IntWalk.toNatUp] at hy38_ hz38_)); (try (have HP38 := Kd.W_putg HO_0.out ((l1.length : Int) : Int) (of_decide_eq_true zq0) zq5 t161)))); refine store_event (t := 86) (p := 125) (v := ?vo_w39) (w1 := (wr.setCell ⟨go34, oo34 + ((l1.length : Int) : Int).toNat, none⟩ (.int .u32 t161))) ?hg ?ho ?hn ?hr ?_; (case ho => rfl); (case hg => rfl); (case hn => rfl); (case hr => first | (go_simp; done) | (go_simp; rfl)); intro w39 hw; have hg : wr.grownBy w39 (some go34) := (by rw [hw]; exact HP38.2); have hp_ : Kd.W pre_ post_ (Kd.int .u32) 86 w39 w0.heap.size (fun k_ => (P0_ k_ ∨ w.heap.size ≤ k_)) (.slice (some ⟨go34, oo34, none⟩) x0_2.length co11) y163 := (by rw [hw, Ny163.out]; exact HP38.1); clear HP38; have n0_ := Aside0.mk (hp_); have n1_ := Aside0.mk ((by rw [hw]; exact below_set (HB.out) GB34.out : Below w0.heap.size w0 w39)); have n2_ := Aside0.mk (Kept.of_grown (S := (fun k_ => P0_ k_)) hg zq4 (fun k_ e_ => (HO_0.out.1 k_ e_))); revert n0_ n1_ n2_; clear HO_0 HB HK; intro HO_0 HB HK; clear hg hw hp_)); try go_wp2_with (first | (go_at_call 102; (with_reducible refine (bits_Sub32.calls (rd x0_2 (l1.length : Int)) ((x9_2) % 4294967296) x10_2 t161 t162 _ A33.out).mono ?_); rintro e w' ⟨rfl, ⟨nd, rfl⟩⟩; (try first | exact ⟨rfl, _, World.drewN_drewN _ _ _⟩ | exact ⟨rfl, _, Eq.trans (World.drewN_drewN _ _ _) (congrArg (World.drewN _) (Nat.add_assoc _ _ _))⟩); have p34 : 0 ≤ ((l1.length : Int) : Int) := of_decide_eq_true zq0; have q34 : ((l1.length : Int) : Int) < ((x0_2.length : Int) : Int) := of_decide_eq_true zq0; obtain ⟨go34, oo34, co34, eo34, gb34, gl34, cl34, HG34⟩ := Kd.W_form HO_0.out (by omega); (first | cases eo34 | (injection eo34 with ea_ en_ ec_; (first | subst ea_ | (injection ea_ with ea_; subst ea_)); subst ec_; clear en_)); have GB34 := Aside0.mk gb34; have GG34 := Aside0.mk HG34; clear gb34 gl34 HG34; have HMgo34 := Aside0.mk (show (P0_ go34 ∨ w.heap.size ≤ go34) from (HO_0.out.1 _ rfl)); (first | simp only [add_at] at hx160_0 | skip); obtain ⟨hx34_0, hf34_0⟩ := Kd.W_cell 0 HO_0.out ((l1.length : Int) : Int) p34 q34; replace p34 := eq_true p34; replace q34 := eq_true q34; obtain ⟨hy38_, hz38_⟩ := Kd.W_cell 0 HO_0.out ((l1.length : Int) : Int) (of_decide_eq_true zq0) (of_decide_eq_true zq0); (try simp only [Go.IntWalk.toNatUp] at hy38_ hz38_); have HP38 := Kd.W_putg HO_0.out ((l1.length : Int) : Int) (of_decide_eq_true zq0) zq5 t161) | ((with_reducible refine gate_store (t := 86) (p := 125) rfl ?_); (try (rw [drewN_self wr]; generalize hq_ : World.drewN wr _ = wr; have n0_ := Aside0.mk (Kd.W_at hq_ HO_0.out); have n1_ := Aside0.mk (kept_at hq_ HK.out); have n2_ := Aside0.mk (below_at hq_ HB.out); clear hq_ HO_0 HK HB; have HO_0 := n0_; have HK := n1_; have HB := n2_; clear n0_ n1_ n2_; (try (obtain ⟨hy38_, hz38_⟩ := Kd.W_cell 0 HO_0.out ((l1.length : Int) : Int) (of_decide_eq_true zq0) (of_decide_eq_true zq0))); (try (try simp only [Go.IntWalk.toNatUp] at hy38_ hz38_)); (try (have HP38 := Kd.W_putg HO_0.out ((l1.length : Int) : Int) (of_decide_eq_true zq0) zq5 t161)))); refine store_event (t := 86) (p := 125) (v := ?vo_w39) (w1 := (wr.setCell ⟨go34, oo34 + ((l1.length : Int) : Int).toNat, none⟩ (.int .u32 t161))) ?hg ?ho ?hn ?hr ?_; (case ho => rfl); (case hg => rfl); (case hn => rfl); (case hr => first | (go_simp; done) | (go_simp; rfl)); intro w39 hw; have hg : wr.grownBy w39 (some go34) := (by rw [hw]; exact HP38.2); have hp_ : Kd.W pre_ post_ (Kd.int .u32) 86 w39 w0.heap.size (fun k_ => (P0_ k_ ∨ w.heap.size ≤ k_)) (.slice (some ⟨go34, oo34, none⟩) x0_2.length co11) y163 := (by rw [hw, Ny163.out]; exact HP38.1); clear HP38; have n0_ := Aside0.mk (hp_); have n1_ := Aside0.mk ((by rw [hw]; exact below_set (HB.out) GB34.out : Below w0.heap.size w0 w39)); have n2_ := Aside0.mk (Kept.of_grown (S := (fun k_ => P0_ k_)) hg zq4 (fun k_ e_ => (HO_0.out.1 k_ e_))); revert n0_ n1_ n2_; clear HO_0 HB HK; intro HO_0 HB HK; clear hg hw hp_)))
        go_loopg [14, 132] k2 (fun kq v14 v132 w' => ∃ (x0_3 : List Int) (x14_3 : Int) (x132_3 : Int), v14 = .int .u32 x14_3 ∧ v132 = .int .i64 x132_3 ∧ Aside0 (N1step.l2 kq x0_3 (l1.length : Int) x7_9 x14_3 l1 (l1.length : Int) x132_3 = some (r1, r2)) ∧ Aside0 (kq ≤ k2) ∧ Aside0 (Kd.W pre_ post_ (Kd.int .u32) 86 w' w0.heap.size (fun k_ => (P0_ k_ ∨ w.heap.size ≤ k_)) (.slice (some ⟨go34, oo34, none⟩) x0_2.length co11) x0_3) ∧ Aside0 (Kept w w' (fun k_ => P0_ k_)) ∧ Aside0 (Below w0.heap.size w0 w'))
        case atStart => exact ⟨(y163), (0), (0), zq1, zq1, H', ⟨Nat.le_refl _⟩, ⟨by (try simp only [hl0_2]); (with_reducible repeat (first | apply Kd.W_alloc | apply Kd.W_drewN | apply Kd.W_drew)); exact HO_0.out⟩, ⟨by repeat (first | (with_reducible first | exact HK.out | apply Kept.alloc | apply Kept.drewN | apply Kept.drew) | exact HK.out)⟩, ⟨zH⟩⟩
        case round =>
         clear H'
         (try clear c1); (try clear p1); (try clear q1); (try clear hx1); (try clear c2); (try clear p2); (try clear q2); (try clear hx2); (try clear hf2); (try clear c3); (try clear c3b0); (try clear c3b1); (try clear p3); (try clear q3); (try clear hx3); (try clear hf3); (try clear c4); (try clear c4b0); (try clear c4b1); (try clear c6); (try clear c6b0); (try clear p6); (try clear c7); (try clear c7b0); (try clear c8); (try clear c8b0); (try clear c9); (try clear c9b0); (try clear c9b1); (try clear c10); (try clear c13); (try clear c13b0); (try clear c13b1); (try clear p14); (try clear q14); (try clear hx14); (try clear c15); (try clear c15b0); (try clear p15); (try clear q15); (try clear hx15); (try clear c16); (try clear c16b0); (try clear p16); (try clear q16); (try clear hx16); (try clear c17); (try clear c17b0); (try clear c18); (try clear c20); (try clear c20b0); (try clear c21); (try clear c21b0); (try clear c22); (try clear c22b0); (try clear c23); (try clear c23b0); (try clear c24); (try clear c24b0); (try clear c25); (try clear c25b0); (try clear c26); (try clear c26b0); (try clear p28); (try clear q28); (try clear hx28); (try clear hf28); (try clear c31); (try clear c31b0); (try clear c31b1); (try clear c32); (try clear c32b0); (try clear c32b1); (try clear p34); (try clear q34); (try clear hx34); (try clear hf34); (try clear c35); (try clear c35b0); (try clear c35b1); (try clear hx148_0); (try clear hx149_0); (try clear hx150_0); (try clear hx151_0); (try clear hx152_0); (try clear hx153_0); (try clear hx154_0); (try clear hx155_0); (try clear hx156_0); (try clear hx160_0); (try clear hx28_0); (try clear hx34_0); (try clear p1); (try clear p14); (try clear p148); (try clear p149); (try clear p15); (try clear p150); (try clear p151); (try clear p152); (try clear p153); (try clear p154); (try clear p155); (try clear p156); (try clear p160); (try clear p2); (try clear p28); (try clear p34); (try clear p6); (try clear q1); (try clear q14); (try clear q148); (try clear q149); (try clear q15); (try clear q150); (try clear q151); (try clear q152); (try clear q153); (try clear q154); (try clear q155); (try clear q156); (try clear q160); (try clear q28); (try clear q34)
         obtain ⟨x0_3, x14_3, x132_3, rfl, rfl, HA, HK3, HO_0, HK, HB⟩ := hrel
         have hl0_3 := (Kd.W_reads' rfl HO_0.out).1
         rw [hl0_3] at HO_0
         (try simp only [hl0_3])
         cases gk with
         | zero => exact absurd HA.out (by simp [N1step.l2])
         | succ k3 =>
          have H := HA.out
          clear HA
          simp only [N1step.l2] at H
          by_cases c40 : x132_3 < (l1.length : Int)
          ·rw [if_pos c40] at H
           have c40b0 := decide_eq_true c40
           (try (have c40x0 := c40b0; simp only [hl0_2, hl0_3] at c40x0))
           clear c40
           replace H := of_ite H
           obtain ⟨c41, H⟩ := H
           have c41b0 := decide_eq_true c41
           clear c41
           replace H := of_ite H
           obtain ⟨c42, H⟩ := H
           have c42b0 := decide_eq_true c42
           (try (have c42x0 := c42b0; simp only [hl0_2, hl0_3] at c42x0))
           clear c42
           replace H := of_ite H
           obtain ⟨c43, H⟩ := H
           have c43b0 := decide_eq_true c43
           (try (have c43x0 := c43b0; simp only [hl0_2, hl0_3] at c43x0))
           clear c43
           replace H := Option.bind_eq_some_iff.mp H
           obtain ⟨⟨t166, t167⟩, A440, H⟩ := H
           (try dsimp only at H)
           have A44 := Aside0.mk A440
           clear A440
           obtain ⟨y168, hy168⟩ : ∃ y_ : List Int, y_ = (x0_3.set (x132_3 : Int).toNat t166) := ⟨_, rfl⟩
           replace H : (N1step.l2 k3 y168 (l1.length : Int) x7_9 t167 l1 (l1.length : Int) (wrap64 (x132_3 + 1))) = some (r1, r2) := by first | (rw [hy168]; with_reducible exact H) | (have H2_ := (Option.bind_some _ _).symm.trans H; rw [hy168]; with_reducible exact H2_) | (have H2_ := (Option.bind_some _ _).symm.trans H; with_reducible exact H2_) | with_reducible exact H | (rw [hy168]; exact H) | exact H
           have Ny168 := Aside0.mk hy168
           clear hy168
           have H' := Aside0.mk H
           clear H
           have p164 : 0 ≤ (x132_3 : Int) := of_decide_eq_true zq0
           have q164 : x132_3 < (l1.length : Int) := of_decide_eq_true zq0
           obtain ⟨ad164, e164, hx164_0⟩ := Kd.at_int (Kd.C_kept_now HR1.out HK.out) x132_3 p164 q164
           obtain rfl : ad150 = ad164 := (by injection e164)
           replace p164 := eq_true p164
           replace q164 := eq_true q164
           have p165 : 0 ≤ (x132_3 : Int) := of_decide_eq_true zq0
           have q165 : x132_3 < (x0_3.length : Int) := of_decide_eq_true zq0
           obtain ⟨ad165, e165, hx165_0⟩ := Kd.at_int (Kd.W_reads' rfl HO_0.out).2.2 x132_3 p165 q165
           obtain rfl : (⟨go34, oo34, none⟩ : Addr) = ad165 := (by injection e165)
           (first | simp only [add_plain] at hx165_0 | simp only [add_at] at hx165_0 | simp only [Addr.add, Nat.zero_add] at hx165_0 | skip)
           replace p165 := eq_true p165
           replace q165 := eq_true q165
           go_wp2_with (first | (go_at_call 87; (with_reducible refine (bits_Add32.calls (rd x0_3 x132_3) (rd l1 x132_3) x14_3 t166 t167 _ A44.out).mono ?_); rintro e w' ⟨rfl, ⟨nd, rfl⟩⟩; (try first | exact ⟨rfl, _, World.drewN_drewN _ _ _⟩ | exact ⟨rfl, _, Eq.trans (World.drewN_drewN _ _ _) (congrArg (World.drewN _) (Nat.add_assoc _ _ _))⟩); have p45 : 0 ≤ (x132_3 : Int) := of_decide_eq_true zq0; have q45 : (x132_3 : Int) < ((x0_3.length : Int) : Int) := of_decide_eq_true zq0; obtain ⟨hx45_0, hf45_0⟩ := Kd.W_cell 0 HO_0.out (x132_3 : Int) p45 q45; replace p45 := eq_true p45; replace q45 := eq_true q45; obtain ⟨hy46_, hz46_⟩ := Kd.W_cell 0 HO_0.out (x132_3 : Int) (of_decide_eq_true zq0) (of_decide_eq_true zq0); have HP46 := Kd.W_putg HO_0.out (x132_3 : Int) (of_decide_eq_true zq0) zq14 t166) | ((with_reducible refine gate_store (t := 86) (p := 149) rfl ?_); (try (rw [drewN_self wr]; generalize hq_ : World.drewN wr _ = wr; have n0_ := Aside0.mk (Kd.W_at hq_ HO_0.out); have n1_ := Aside0.mk (kept_at hq_ HK.out); have n2_ := Aside0.mk (below_at hq_ HB.out); clear hq_ HO_0 HK HB; have HO_0 := n0_; have HK := n1_; have HB := n2_; clear n0_ n1_ n2_; (try (obtain ⟨hy46_, hz46_⟩ := Kd.W_cell 0 HO_0.out (x132_3 : Int) (of_decide_eq_true zq0) (of_decide_eq_true zq0))); (try (have HP46 := Kd.W_putg HO_0.out (x132_3 : Int) (of_decide_eq_true zq0) zq14 t166)))); refine store_event (t := 86) (p := 149) (v := ?vo_w47) (w1 := (wr.setCell ⟨go34, oo34 + (x132_3 : Int).toNat, none⟩ (.int .u32 t166))) ?hg ?ho ?hn ?hr ?_; (case ho => rfl); (case hg => rfl); (case hn => rfl); (case hr => first | (go_simp; done) | (go_simp; rfl)); intro w47 hw; have hg : wr.grownBy w47 (some go34) := (by rw [hw]; exact HP46.2); have hp_ : Kd.W pre_ post_ (Kd.int .u32) 86 w47 w0.heap.size (fun k_ => (P0_ k_ ∨ w.heap.size ≤ k_)) (.slice (some ⟨go34, oo34, none⟩) x0_3.length co11) y168 := (by rw [hw, Ny168.out]; exact HP46.1); clear HP46; have n0_ := Aside0.mk (hp_); have n1_ := Aside0.mk ((by rw [hw]; exact below_set (HB.out) GB34.out : Below w0.heap.size w0 w47)); have n2_ := Aside0.mk (Kept.of_grown (S := (fun k_ => P0_ k_)) hg zq4 (fun k_ e_ => (HO_0.out.1 k_ e_))); revert n0_ n1_ n2_; clear HO_0 HB HK; intro HO_0 HB HK; clear hg hw hp_))
           repeat (go_quiet (first | (go_at_call 87; (with_reducible refine (bits_Add32.calls (rd x0_3 x132_3) (rd l1 x132_3) x14_3 t166 t167 _ A44.out).mono ?_); rintro e w' ⟨rfl, ⟨nd, rfl⟩⟩; (try first | exact ⟨rfl, _, World.drewN_drewN _ _ _⟩ | exact ⟨rfl, _, Eq.trans (World.drewN_drewN _ _ _) (congrArg (World.drewN _) (Nat.add_assoc _ _ _))⟩); have p45 : 0 ≤ (x132_3 : Int) := of_decide_eq_true zq0; have q45 : (x132_3 : Int) < ((x0_3.length : Int) : Int) := of_decide_eq_true zq0; obtain ⟨hx45_0, hf45_0⟩ := Kd.W_cell 0 HO_0.out (x132_3 : Int) p45 q45; replace p45 := eq_true p45; replace q45 := eq_true q45; obtain ⟨hy46_, hz46_⟩ := Kd.W_cell 0 HO_0.out (x132_3 : Int) (of_decide_eq_true zq0) (of_decide_eq_true zq0); have HP46 := Kd.W_putg HO_0.out (x132_3 : Int) (of_decide_eq_true zq0) zq14 t166) | ((with_reducible refine gate_store (t := 86) (p := 149) rfl ?_); (try (rw [drewN_self wr]; generalize hq_ : World.drewN wr _ = wr; have n0_ := Aside0.mk (Kd.W_at hq_ HO_0.out); have n1_ := Aside0.mk (kept_at hq_ HK.out); have n2_ := Aside0.mk (below_at hq_ HB.out); clear hq_ HO_0 HK HB; have HO_0 := n0_; have HK := n1_; have HB := n2_; clear n0_ n1_ n2_; (try (obtain ⟨hy46_, hz46_⟩ := Kd.W_cell 0 HO_0.out (x132_3 : Int) (of_decide_eq_true zq0) (of_decide_eq_true zq0))); (try (have HP46 := Kd.W_putg HO_0.out (x132_3 : Int) (of_decide_eq_true zq0) zq14 t166)))); refine store_event (t := 86) (p := 149) (v := ?vo_w47) (w1 := (wr.setCell ⟨go34, oo34 + (x132_3 : Int).toNat, none⟩ (.int .u32 t166))) ?hg ?ho ?hn ?hr ?_; (case ho => rfl); (case hg => rfl); (case hn => rfl); (case hr => first | (go_simp; done) | (go_simp; rfl)); intro w47 hw; have hg : wr.grownBy w47 (some go34) := (by rw [hw]; exact HP46.2); have hp_ : Kd.W pre_ post_ (Kd.int .u32) 86 w47 w0.heap.size (fun k_ => (P0_ k_ ∨ w.heap.size ≤ k_)) (.slice (some ⟨go34, oo34, none⟩) x0_3.length co11) y168 := (by rw [hw, Ny168.out]; exact HP46.1); clear HP46; have n0_ := Aside0.mk (hp_); have n1_ := Aside0.mk ((by rw [hw]; exact below_set (HB.out) GB34.out : Below w0.heap.size w0 w47)); have n2_ := Aside0.mk (Kept.of_grown (S := (fun k_ => P0_ k_)) hg zq4 (fun k_ e_ => (HO_0.out.1 k_ e_))); revert n0_ n1_ n2_; clear HO_0 HB HK; intro HO_0 HB HK; clear hg hw hp_)); try go_wp2_with (first | (go_at_call 87; (with_reducible refine (bits_Add32.calls (rd x0_3 x132_3) (rd l1 x132_3) x14_3 t166 t167 _ A44.out).mono ?_); rintro e w' ⟨rfl, ⟨nd, rfl⟩⟩; (try first | exact ⟨rfl, _, World.drewN_drewN _ _ _⟩ | exact ⟨rfl, _, Eq.trans (World.drewN_drewN _ _ _) (congrArg (World.drewN _) (Nat.add_assoc _ _ _))⟩); have p45 : 0 ≤ (x132_3 : Int) := of_decide_eq_true zq0; have q45 : (x132_3 : Int) < ((x0_3.length : Int) : Int) := of_decide_eq_true zq0; obtain ⟨hx45_0, hf45_0⟩ := Kd.W_cell 0 HO_0.out (x132_3 : Int) p45 q45; replace p45 := eq_true p45; replace q45 := eq_true q45; obtain ⟨hy46_, hz46_⟩ := Kd.W_cell 0 HO_0.out (x132_3 : Int) (of_decide_eq_true zq0) (of_decide_eq_true zq0); have HP46 := Kd.W_putg HO_0.out (x132_3 : Int) (of_decide_eq_true zq0) zq14 t166) | ((with_reducible refine gate_store (t := 86) (p := 149) rfl ?_); (try (rw [drewN_self wr]; generalize hq_ : World.drewN wr _ = wr; have n0_ := Aside0.mk (Kd.W_at hq_ HO_0.out); have n1_ := Aside0.mk (kept_at hq_ HK.out); have n2_ := Aside0.mk (below_at hq_ HB.out); clear hq_ HO_0 HK HB; have HO_0 := n0_; have HK := n1_; have HB := n2_; clear n0_ n1_ n2_; (try (obtain ⟨hy46_, hz46_⟩ := Kd.W_cell 0 HO_0.out (x132_3 : Int) (of_decide_eq_true zq0) (of_decide_eq_true zq0))); (try (have HP46 := Kd.W_putg HO_0.out (x132_3 : Int) (of_decide_eq_true zq0) zq14 t166)))); refine store_event (t := 86) (p := 149) (v := ?vo_w47) (w1 := (wr.setCell ⟨go34, oo34 + (x132_3 : Int).toNat, none⟩ (.int .u32 t166))) ?hg ?ho ?hn ?hr ?_; (case ho => rfl); (case hg => rfl); (case hn => rfl); (case hr => first | (go_simp; done) | (go_simp; rfl)); intro w47 hw; have hg : wr.grownBy w47 (some go34) := (by rw [hw]; exact HP46.2); have hp_ : Kd.W pre_ post_ (Kd.int .u32) 86 w47 w0.heap.size (fun k_ => (P0_ k_ ∨ w.heap.size ≤ k_)) (.slice (some ⟨go34, oo34, none⟩) x0_3.length co11) y168 := (by rw [hw, Ny168.out]; exact HP46.1); clear HP46; have n0_ := Aside0.mk (hp_); have n1_ := Aside0.mk ((by rw [hw]; exact below_set (HB.out) GB34.out : Below w0.heap.size w0 w47)); have n2_ := Aside0.mk (Kept.of_grown (S := (fun k_ => P0_ k_)) hg zq4 (fun k_ e_ => (HO_0.out.1 k_ e_))); revert n0_ n1_ n2_; clear HO_0 HB HK; intro HO_0 HB HK; clear hg hw hp_)))
           (try simp only [← hl0_3])
           (refine Handed.intro k3 ?measure ?_; rotate_left; go_step; (repeat apply Exists.intro); refine ⟨?rel, (by first | rfl | (simp only [add_at]; rfl))⟩)
           case measure => have := HJ9.out; have := HK2.out; have := HK3.out; omega
           case rel => exact ⟨(y168), (t167), (wrap64 (x132_3 + 1)), zq1, zq1, H', ⟨by have := HJ9.out; have := HK2.out; have := HK3.out; omega⟩, ⟨by (try simp only [hl0_2]); (try simp only [hl0_3]); (with_reducible repeat (first | apply Kd.W_alloc | apply Kd.W_drewN | apply Kd.W_drew)); exact HO_0.out⟩, ⟨by repeat (first | (with_reducible first | exact HK.out | apply Kept.alloc | apply Kept.drewN | apply Kept.drew) | exact HK.out)⟩, ⟨zH⟩⟩
          ·rw [if_neg c40] at H
           have c40b0 := decide_eq_false c40
           (try (have c40x0 := c40b0; simp only [hl0_2, hl0_3] at c40x0))
           clear c40
           replace H := of_ite H
           obtain ⟨c48, H⟩ := H
           have c48b0 := decide_eq_true c48
           have c48b1 : decide (0 ≤ l1.length) = true := decide_eq_true (by omega)
           (try (have c48x0 := c48b0; simp only [hl0_2, hl0_3] at c48x0))
           (try (have c48x1 := c48b1; simp only [hl0_2, hl0_3] at c48x1))
           clear c48
           replace H := of_ite H
           obtain ⟨c49, H⟩ := H
           have c49b0 := decide_eq_true c49
           have c49b1 : decide (l1.length < x0_3.length) = true := decide_eq_true (Int.ofNat_lt.mp c49)
           (try (have c49x0 := c49b0; simp only [hl0_2, hl0_3] at c49x0))
           (try (have c49x1 := c49b1; simp only [hl0_2, hl0_3] at c49x1))
           clear c49
           obtain ⟨y170, hy170⟩ : ∃ y_ : List Int, y_ = (x0_3.set ((l1.length : Int) : Int).toNat (((rd x0_3 (l1.length : Int)) + x14_3) % 4294967296)) := ⟨_, rfl⟩
           replace H : (some ((IntKind.u64.wrap (x7_9 - 1)) % 4294967296, y170)) = some (r1, r2) := by first | (rw [hy170]; with_reducible exact H) | (have H2_ := (Option.bind_some _ _).symm.trans H; rw [hy170]; with_reducible exact H2_) | (have H2_ := (Option.bind_some _ _).symm.trans H; with_reducible exact H2_) | with_reducible exact H | (rw [hy170]; exact H) | exact H
           have Ny170 := Aside0.mk hy170
           clear hy170
           simp only [Option.some.injEq, Prod.mk.injEq] at H
           obtain ⟨rfl, rfl⟩ := H
           have p169 : 0 ≤ ((l1.length : Int) : Int) := of_decide_eq_true zq0
           have q169 : (l1.length : Int) < (x0_3.length : Int) := of_decide_eq_true zq0
           obtain ⟨ad169, e169, hx169_0⟩ := Kd.at_int (Kd.W_reads' rfl HO_0.out).2.2 (l1.length : Int) p169 q169
           obtain rfl : (⟨go34, oo34, none⟩ : Addr) = ad169 := (by injection e169)
           (first | simp only [add_plain] at hx169_0 | simp only [add_at] at hx169_0 | simp only [Addr.add, Nat.zero_add] at hx169_0 | skip)
           (try simp only [Go.IntWalk.toNatUp] at hx169_0)
           (try simp only [hl0_2, hl0_3] at p169)
           (try simp only [hl0_2, hl0_3] at q169)
           (try simp only [hl0_2, hl0_3] at hx169_0)
           replace p169 := eq_true p169
           replace q169 := eq_true q169
           have p50 : 0 ≤ ((l1.length : Int) : Int) := of_decide_eq_true zq0
           have q50 : ((l1.length : Int) : Int) < ((x0_3.length : Int) : Int) := of_decide_eq_true zq0
           obtain ⟨hx50_0, hf50_0⟩ := Kd.W_cell 0 HO_0.out ((l1.length : Int) : Int) p50 q50
           (try simp only [Go.IntWalk.toNatUp] at hx50_0 hf50_0)
           replace p50 := eq_true p50
           replace q50 := eq_true q50
           have HP51 := Kd.W_putg HO_0.out ((l1.length : Int) : Int) (of_decide_eq_true zq0) zq21 (((rd x0_3 (l1.length : Int)) + x14_3) % 4294967296)
           go_wp2_with (first | ((with_reducible refine gate_store (t := 86) (p := 157) rfl ?_); (try (rw [drewN_self wr]; generalize hq_ : World.drewN wr _ = wr; have n0_ := Aside0.mk (Kd.W_at hq_ HO_0.out); have n1_ := Aside0.mk (kept_at hq_ HK.out); have n2_ := Aside0.mk (below_at hq_ HB.out); clear hq_ HO_0 HK HB; have HO_0 := n0_; have HK := n1_; have HB := n2_; clear n0_ n1_ n2_; (try (have HP51 := Kd.W_putg HO_0.out ((l1.length : Int) : Int) (of_decide_eq_true zq0) zq21 (((rd x0_3 (l1.length : Int)) + x14_3) % 4294967296))))); refine store_event (t := 86) (p := 157) (v := ?vo_w52) (w1 := (wr.setCell ⟨go34, oo34 + ((l1.length : Int) : Int).toNat, none⟩ (.int .u32 (((rd x0_3 (l1.length : Int)) + x14_3) % 4294967296)))) ?hg ?ho ?hn ?hr ?_; (case ho => rfl); (case hg => rfl); (case hn => rfl); (case hr => first | (go_simp; done) | (go_simp; rfl)); intro w52 hw; have hg : wr.grownBy w52 (some go34) := (by rw [hw]; exact HP51.2); have hp_ : Kd.W pre_ post_ (Kd.int .u32) 86 w52 w0.heap.size (fun k_ => (P0_ k_ ∨ w.heap.size ≤ k_)) (.slice (some ⟨go34, oo34, none⟩) x0_3.length co11) y170 := (by rw [hw, Ny170.out]; exact HP51.1); clear HP51; have n0_ := Aside0.mk (hp_); have n1_ := Aside0.mk ((by rw [hw]; exact below_set (HB.out) GB34.out : Below w0.heap.size w0 w52)); have n2_ := Aside0.mk (Kept.of_grown (S := (fun k_ => P0_ k_)) hg zq4 (fun k_ e_ => (HO_0.out.1 k_ e_))); revert n0_ n1_ n2_; clear HO_0 HB HK; intro HO_0 HB HK; clear hg hw hp_))
           repeat (go_quiet (first | ((with_reducible refine gate_store (t := 86) (p := 157) rfl ?_); (try (rw [drewN_self wr]; generalize hq_ : World.drewN wr _ = wr; have n0_ := Aside0.mk (Kd.W_at hq_ HO_0.out); have n1_ := Aside0.mk (kept_at hq_ HK.out); have n2_ := Aside0.mk (below_at hq_ HB.out); clear hq_ HO_0 HK HB; have HO_0 := n0_; have HK := n1_; have HB := n2_; clear n0_ n1_ n2_; (try (have HP51 := Kd.W_putg HO_0.out ((l1.length : Int) : Int) (of_decide_eq_true zq0) zq21 (((rd x0_3 (l1.length : Int)) + x14_3) % 4294967296))))); refine store_event (t := 86) (p := 157) (v := ?vo_w52) (w1 := (wr.setCell ⟨go34, oo34 + ((l1.length : Int) : Int).toNat, none⟩ (.int .u32 (((rd x0_3 (l1.length : Int)) + x14_3) % 4294967296)))) ?hg ?ho ?hn ?hr ?_; (case ho => rfl); (case hg => rfl); (case hn => rfl); (case hr => first | (go_simp; done) | (go_simp; rfl)); intro w52 hw; have hg : wr.grownBy w52 (some go34) := (by rw [hw]; exact HP51.2); have hp_ : Kd.W pre_ post_ (Kd.int .u32) 86 w52 w0.heap.size (fun k_ => (P0_ k_ ∨ w.heap.size ≤ k_)) (.slice (some ⟨go34, oo34, none⟩) x0_3.length co11) y170 := (by rw [hw, Ny170.out]; exact HP51.1); clear HP51; have n0_ := Aside0.mk (hp_); have n1_ := Aside0.mk ((by rw [hw]; exact below_set (HB.out) GB34.out : Below w0.heap.size w0 w52)); have n2_ := Aside0.mk (Kept.of_grown (S := (fun k_ => P0_ k_)) hg zq4 (fun k_ e_ => (HO_0.out.1 k_ e_))); revert n0_ n1_ n2_; clear HO_0 HB HK; intro HO_0 HB HK; clear hg hw hp_)); try go_wp2_with (first | ((with_reducible refine gate_store (t := 86) (p := 157) rfl ?_); (try (rw [drewN_self wr]; generalize hq_ : World.drewN wr _ = wr; have n0_ := Aside0.mk (Kd.W_at hq_ HO_0.out); have n1_ := Aside0.mk (kept_at hq_ HK.out); have n2_ := Aside0.mk (below_at hq_ HB.out); clear hq_ HO_0 HK HB; have HO_0 := n0_; have HK := n1_; have HB := n2_; clear n0_ n1_ n2_; (try (have HP51 := Kd.W_putg HO_0.out ((l1.length : Int) : Int) (of_decide_eq_true zq0) zq21 (((rd x0_3 (l1.length : Int)) + x14_3) % 4294967296))))); refine store_event (t := 86) (p := 157) (v := ?vo_w52) (w1 := (wr.setCell ⟨go34, oo34 + ((l1.length : Int) : Int).toNat, none⟩ (.int .u32 (((rd x0_3 (l1.length : Int)) + x14_3) % 4294967296)))) ?hg ?ho ?hn ?hr ?_; (case ho => rfl); (case hg => rfl); (case hn => rfl); (case hr => first | (go_simp; done) | (go_simp; rfl)); intro w52 hw; have hg : wr.grownBy w52 (some go34) := (by rw [hw]; exact HP51.2); have hp_ : Kd.W pre_ post_ (Kd.int .u32) 86 w52 w0.heap.size (fun k_ => (P0_ k_ ∨ w.heap.size ≤ k_)) (.slice (some ⟨go34, oo34, none⟩) x0_3.length co11) y170 := (by rw [hw, Ny170.out]; exact HP51.1); clear HP51; have n0_ := Aside0.mk (hp_); have n1_ := Aside0.mk ((by rw [hw]; exact below_set (HB.out) GB34.out : Below w0.heap.size w0 w52)); have n2_ := Aside0.mk (Kept.of_grown (S := (fun k_ => P0_ k_)) hg zq4 (fun k_ e_ => (HO_0.out.1 k_ e_))); revert n0_ n1_ n2_; clear HO_0 HB HK; intro HO_0 HB HK; clear hg hw hp_)))
           go_ret
           exact ⟨by first | rfl | (simp [errW_none, errW_some] <;> rfl) | (simp only [← hji5]; first | rfl | (simp [errW_none, errW_some] <;> rfl)) | (simp [*, errW_none, errW_some] <;> rfl), (by first | exact zq20 | (simp only [hl0_2, hl0_3]; exact zq20)), zH, by repeat (first | (with_reducible first | exact HK.out | apply Kept.alloc | apply Kept.drewN | apply Kept.drew) | exact HK.out)⟩
def N1stepc.f (k : Nat) (l0 : List Int) (lo : Int) (hi : Int) (l1 : List Int) : Option (Int × List Int) := (N1step.f k ((l0.take hi.toNat).drop lo.toNat) l1).bind fun b => some (b.1, l0.take lo.toNat ++ b.2 ++ l0.drop hi.toNat)
theorem N1stepc.calls (k : Nat) (P0_ : Nat → Prop) (A : Option Addr) (c0 : Nat) (l0 : List Int) (lo hi : Int) (A1 : Option Addr) (c1 : Nat) (l1 : List Int) (r1 : Int) (r2 : List Int) (w0 w : World) (hB : Below w0.heap.size w0 w)
 (ho0 : Kd.R (Kd.int .u32) 86 w w0.heap.size P0_ (.slice A l0.length c0) l0) (hr1 : ∀ W_, Kept w W_ (fun k_ => P0_ k_) → Kd.C (Kd.int .u32) W_ A1 l1.length l1) (hc1 : l1.length ≤ c1) (h0 : 0 ≤ lo) (hh : hi ≤ l0.length)
 {Ac : Option Addr} {nc cc : Nat} (hA : Ac = if c0 = lo.toNat then A else A.map (·.add (lo.toNat * 1))) (hn : nc = hi.toNat - lo.toNat) (hcc : cc = c0 - lo.toNat) (h : N1stepc.f k l0 lo hi l1 = some (r1, r2)) :
 Calls Tryd.prog 100 #[.slice Ac nc cc, .slice A1 l1.length c1] w fun e w' => e = .returned (.int .u32 r1) ∧ Kd.R (Kd.int .u32) 86 w' w0.heap.size (fun k_ => (P0_ k_ ∨ w.heap.size ≤ k_)) (.slice A l0.length c0) r2 ∧ Below w0.heap.size w0 w' ∧ Kept w w' (fun k_ => P0_ k_) := by
 obtain ⟨⟨d, u⟩, hs, he⟩ := Option.bind_eq_some_iff.mp h
 simp only [Option.some.injEq, Prod.mk.injEq] at he
 obtain ⟨rfl, rfl⟩ := he
 have hlh : lo < hi := by
  refine Int.not_le.1 fun hle => ?_
  have e : (l0.take hi.toNat).drop lo.toNat = [] := List.drop_eq_nil_of_le (by rw [List.length_take]; omega)
  rw [e] at hs
  unfold N1step.f at hs
  rw [if_pos (Int.natCast_nonneg _), if_neg (by simp)] at hs
  cases hs
 obtain ⟨g, cap, hv, _, _, _⟩ := Kd.R_form ho0 (by omega)
 injection hv with hA' _ hcap
 subst hA'; subst hcap
 have hcl := (Kd.R_reads' ho0).2.1
 have ewin : ((l0.take hi.toNat).drop lo.toNat).length = hi.toNat - lo.toNat := by rw [List.length_drop, List.length_take]; omega
 have epre : (l0.take lo.toNat).length = lo.toNat := by rw [List.length_take]; omega
 have eall : l0.take lo.toNat ++ (l0.take hi.toNat).drop lo.toNat ++ l0.drop hi.toNat = l0 := by
  have e1 : l0.take lo.toNat = (l0.take hi.toNat).take lo.toNat := by rw [List.take_take, Nat.min_eq_left (by omega)]
  rw [e1, List.take_append_drop, List.take_append_drop]
 have hW : Kd.W (l0.take lo.toNat) (l0.drop hi.toNat) (Kd.int .u32) 86 w w0.heap.size P0_ (.slice (some ⟨g, lo.toNat, none⟩) ((l0.take hi.toNat).drop lo.toNat).length (c0 - lo.toNat)) ((l0.take hi.toNat).drop lo.toNat) :=
  ⟨fun k hk => ho0.1 k (by simpa [Value.ownBlock] using hk), g, c0, by rw [eall]; exact ho0, by rw [epre]⟩
 have hAc : Ac = some ⟨g, lo.toNat, none⟩ := by
  rw [hA, if_neg (by omega), Nat.mul_one, Option.map_some, add_plain]
 rw [hAc, hn, hcc, ← ewin]
 refine (N1step.calls k _ _ P0_ _ _ A1 c1 l1 d u w0 w hB hW hr1 hc1 hs).mono ?_
 rintro e w' ⟨rfl, ⟨hok, g', cap', hR, hv⟩, hb, hk⟩
 injection hv with hA2 hn2 hc2
 injection hA2 with hA2
 injection hA2 with hg _
 subst hg
 refine ⟨rfl, ?_, hb, hk⟩
 have e2 : (l0.take lo.toNat ++ u ++ l0.drop hi.toNat).length = l0.length := by
  rw [← eall]
  simp only [List.length_append, ← hn2]
  simp only [← List.length_append, eall]
 have e3 : cap' = c0 := by
  have := (Kd.R_reads' hR).2.1
  rw [e2] at this
  rw [epre] at hc2
  omega
 rw [e2, e3] at hR
 exact hR
end Go.Proofs.YtggfilmdfpmbmaaDoor.QN
end
section
namespace Go.Proofs.YtggfilmdfpmbmaaDoor.QN
open Go.RowKit Go.Proofs.YtggfilmdfpmbmaaDoorW.PrintWords Go.Proofs.YtggfilmdfpmbmaaDoorW.PrintLast Go.Proofs.YtggfilmdfpmbmaaDoorW.PrintMore
attribute [local go_sem] max2_int min2_int max_two min_two max_three min_three max_four min_four   -- for this text's walks alone
set_option linter.unusedVariables false
set_option linter.unusedSimpArgs false
def N1unshift.l0 : Nat → List Int → Int → List Int → Int → Int → Option (List Int)
 | 0, _, _, _, _, _ => none
 | k + 1, x0, x1, x5, x12, x13 => if x13 < x12 then (if 0 ≤ x13 then (if x13 < (x0.length : Int) then (if (wrap64 (x13 + 1)) < (x0.length : Int) then (if 0 ≤ (wrap64 (x13 + 1)) then (if 0 ≤ x1 then (if x1 ≤ 64 then (if x13 < (x5.length : Int) then (N1unshift.l0 k x0 x1 (x5.set (x13 : Int).toNat (((Go.bits .or .u64 (IntKind.u64.wrap (rd x0 x13)) (IntKind.u64.wrap ((IntKind.u64.wrap (rd x0 (wrap64 (x13 + 1)))) * 4294967296))) / 2 ^ x1.toNat) % 4294967296)) x12 (wrap64 (x13 + 1))) else (none)) else (none)) else (none)) else (none)) else (if 0 ≤ x1 then (if x1 ≤ 64 then (if x13 < (x5.length : Int) then (N1unshift.l0 k x0 x1 (x5.set (x13 : Int).toNat (((IntKind.u64.wrap (rd x0 x13)) / 2 ^ x1.toNat) % 4294967296)) x12 (wrap64 (x13 + 1))) else (none)) else (none)) else (none))) else (none)) else (none)) else ((N1limbs_trim.f k x5).bind fun t178 => (some t178))
def N1unshift.f (k : Nat) (l0 : List Int) (a1 : Int) : Option (List Int) := if 0 ≤ (l0.length : Int) then (if ((l0.length : Int) : Int).toNat ≤ 70368744177664 then (N1unshift.l0 k l0 a1 (List.replicate ((l0.length : Int) : Int).toNat 0) (l0.length : Int) 0) else (none)) else (none)
set_option maxHeartbeats 8000000 in
set_option maxRecDepth 100000 in
theorem N1unshift.calls (k : Nat) (A0 : Option Addr) (c0 : Nat) (l0 : List Int) (a1 : Int) (r : List Int) (w : World) (hr0 : Kd.C (Kd.int .u32) w A0 l0.length l0) (hc0 : l0.length ≤ c0) (h : N1unshift.f k l0 a1 = some r) :
 Calls Tryd.prog 101 #[.slice A0 l0.length c0, .int .u64 a1] w fun e w' => ∃ v0_ : Value, e = .returned (v0_) ∧ Kd.V (Kd.int .u32) 86 w' w.heap.size (fun k_ => (w.heap.size ≤ k_)) v0_ r ∧ Below w.heap.size w w' := by
 have HR0 := Aside0.mk hr0
 have HC0 := Aside0.mk hc0
 clear hr0 hc0
 have HB := Aside0.mk (Below.refl w.heap.size w)
 have H : (if 0 ≤ (l0.length : Int) then (if ((l0.length : Int) : Int).toNat ≤ 70368744177664 then (N1unshift.l0 k l0 a1 (List.replicate ((l0.length : Int) : Int).toNat 0) (l0.length : Int) 0) else (none)) else (none)) = some r := h
 clear h
 replace H := of_ite H
 obtain ⟨c3, H⟩ := H
 have c3b0 := eq_true c3
 have c3b1 := decide_eq_true c3
 clear c3
 replace H := of_ite H
 obtain ⟨c4, H⟩ := H
 have c4b0 := eq_true c4
 have c4b1 := decide_eq_true c4
 clear c4
 obtain ⟨y171, hy171⟩ : ∃ y_ : List Int, y_ = (List.replicate ((l0.length : Int) : Int).toNat 0) := ⟨_, rfl⟩
 replace H : (N1unshift.l0 k l0 a1 y171 (l0.length : Int) 0) = some r := by first | (rw [hy171]; with_reducible exact H) | (have H2_ := (Option.bind_some _ _).symm.trans H; rw [hy171]; with_reducible exact H2_) | (have H2_ := (Option.bind_some _ _).symm.trans H; with_reducible exact H2_) | with_reducible exact H | (rw [hy171]; exact H) | exact H
 have Ny171 := Aside0.mk hy171
 clear hy171
 have H' := Aside0.mk H
 clear H
 go_enter Tryd.func101, Tryd.ntmps101
 go_wp2_with (first | ((with_reducible refine gate_dst (N := 10) rfl ?_); refine Kd.R_make (Kd.int .u32) _ 86 rfl (N := 10) rfl 84 _ _ rfl (l0.length : Int) rfl rfl Tryd.underlying84 (.int .u32 0) 4 info86 rfl (by decide) (by omega) 0 (ok := fun _ => True) (okp := fun _ => True) rfl (fun _ hk => hk) trivial (of_decide_eq_true zq0) (Nat.le_trans (Nat.mul_le_mul_right _ (of_decide_eq_true zq0 : (l0.length : Int).toNat ≤ 70368744177664)) (by omega)) (Below.refl _ _) (Nat.le_refl _) ?_; intro v172 w5 ho6 hb hg_ hnew_; clear hg_ hnew_; (first | rw [← Ny171.out] at ho6 | (simp only [Int.reduceToNat] at ho6; rw [← Ny171.out] at ho6)); have n0_ := Aside0.mk (Kd.R_lower (Kd.R_newM (M := fun k_ => (w.heap.size ≤ k_)) ho6 (below_size zH) (fun k_ h_ => h_)) (below_size zH)); have n1_ := sB hb; revert n0_ n1_; clear HB; intro HO173 HB; clear hb ho6))
 go_loopg [13] k (fun kq v13 w' => ∃ (x5_1 : List Int) (x13_1 : Int), v13 = .int .i64 x13_1 ∧ Aside0 (N1unshift.l0 kq l0 a1 x5_1 (l0.length : Int) x13_1 = some r) ∧ Aside0 (kq ≤ k) ∧ Aside0 (Kd.R (Kd.int .u32) 86 w' w.heap.size (fun k_ => (w.heap.size ≤ k_)) v172 x5_1) ∧ Aside0 (Below w.heap.size w w'))
 case atStart => exact ⟨(y171), (0), zq1, H', ⟨Nat.le_refl _⟩, ⟨by (with_reducible repeat (first | apply Kd.R_alloc | apply Kd.R_drewN | apply Kd.R_drew)); exact Kd.R_mono HO173.out (fun _ hk => hk.1)⟩, ⟨zH⟩⟩
 case round =>
  clear H'
  (try clear c1); (try clear p2); (try clear c3); (try clear c3b0); (try clear c3b1); (try clear c4); (try clear c4b0); (try clear c4b1)
  obtain ⟨x5_1, x13_1, rfl, HA, HK1, HO_5, HB⟩ := hrel
  cases gk with
  | zero => exact absurd HA.out (by simp [N1unshift.l0])
  | succ k1 =>
   have H := HA.out
   clear HA
   simp only [N1unshift.l0] at H
   by_cases c7 : x13_1 < (l0.length : Int)
   ·rw [if_pos c7] at H
    have c7b0 := decide_eq_true c7
    clear c7
    replace H := of_ite H
    obtain ⟨c8, H⟩ := H
    have c8b0 := decide_eq_true c8
    clear c8
    replace H := of_ite H
    obtain ⟨c9, H⟩ := H
    have c9b0 := decide_eq_true c9
    clear c9
    by_cases c10 : (wrap64 (x13_1 + 1)) < (l0.length : Int)
    ·rw [if_pos c10] at H
     have c10b0 := decide_eq_true c10
     clear c10
     obtain ⟨ji11, hji11⟩ : ∃ j_ : Int, (wrap64 (x13_1 + 1)) = j_ := ⟨_, rfl⟩
     first | rw [hji11] at H | simp only [hji11] at H
     (try rw [hji11] at c10b0)
     have hji11w : (IntKind.i64.wrap (x13_1 + 1)) = ji11 := (i64_w _).trans hji11
     replace H := of_ite H
     obtain ⟨c12, H⟩ := H
     have c12b0 := decide_eq_true c12
     clear c12
     replace H := of_ite H
     obtain ⟨c13, H⟩ := H
     have c13b0 := eq_true c13
     have c13b1 := decide_eq_true c13
     clear c13
     replace H := of_ite H
     obtain ⟨c14, H⟩ := H
     have c14b0 := eq_true c14
     have c14b1 := decide_eq_true c14
     clear c14
     replace H := of_ite H
     obtain ⟨c15, H⟩ := H
     have c15b0 := decide_eq_true c15
     clear c15
     obtain ⟨y176, hy176⟩ : ∃ y_ : List Int, y_ = (x5_1.set (x13_1 : Int).toNat (((Go.bits .or .u64 (IntKind.u64.wrap (rd l0 x13_1)) (IntKind.u64.wrap ((IntKind.u64.wrap (rd l0 (ji11))) * 4294967296))) / 2 ^ a1.toNat) % 4294967296)) := ⟨_, rfl⟩
     replace H : (N1unshift.l0 k1 l0 a1 y176 (l0.length : Int) ji11) = some r := by first | (rw [hy176]; with_reducible exact H) | (have H2_ := (Option.bind_some _ _).symm.trans H; rw [hy176]; with_reducible exact H2_) | (have H2_ := (Option.bind_some _ _).symm.trans H; with_reducible exact H2_) | with_reducible exact H | (rw [hy176]; exact H) | exact H
     have Ny176 := Aside0.mk hy176
     clear hy176
     have H' := Aside0.mk H
     clear H
     have p174 : 0 ≤ (x13_1 : Int) := of_decide_eq_true zq0
     have q174 : x13_1 < (l0.length : Int) := of_decide_eq_true zq0
     obtain ⟨ad174, e174, hx174_0⟩ := Kd.at_int HR0.out x13_1 p174 q174
     cases e174
     (try replace hx174_0 := (HB.out.cell (World.block_lt_of_cell? w _ hx174_0)).trans hx174_0)
     replace p174 := eq_true p174
     replace q174 := eq_true q174
     have p175 : 0 ≤ ((ji11) : Int) := of_decide_eq_true zq0
     have q175 : (ji11) < (l0.length : Int) := of_decide_eq_true zq0
     obtain ⟨ad175, e175, hx175_0⟩ := Kd.at_int HR0.out (ji11) p175 q175
     obtain rfl : ad174 = ad175 := (by injection e175)
     (try replace hx175_0 := (HB.out.cell (World.block_lt_of_cell? w _ hx175_0)).trans hx175_0)
     replace p175 := eq_true p175
     replace q175 := eq_true q175
     have p16 : 0 ≤ (x13_1 : Int) := of_decide_eq_true zq0
     have q16 : (x13_1 : Int) < ((x5_1.length : Int) : Int) := of_decide_eq_true zq0
     obtain ⟨go16, co16, eo16, gb16, gl16, cl16, HG16⟩ := Kd.R_form HO_5.out (by omega)
     (first | cases eo16 | (injection eo16 with ea_ en_ ec_; (first | subst ea_ | (injection ea_ with ea_; subst ea_)); subst ec_; clear en_))
     have GB16 := Aside0.mk gb16
     have GG16 := Aside0.mk HG16
     clear gb16 gl16 HG16
     obtain ⟨hx16_0, hf16_0⟩ := Kd.R_celln 0 HO_5.out (x13_1 : Int) p16 q16
     (try simp only [Go.IntWalk.toNatUp] at hx16_0 hf16_0)
     replace p16 := eq_true p16
     replace q16 := eq_true q16
     have HP17 := Kd.R_putg HO_5.out (x13_1 : Int) (((Go.bits .or .u64 (IntKind.u64.wrap (rd l0 x13_1)) (IntKind.u64.wrap ((IntKind.u64.wrap (rd l0 (ji11))) * 4294967296))) / 2 ^ a1.toNat) % 4294967296)
     go_wp2_with (first | ((with_reducible refine gate_store (t := 86) (p := 41) rfl ?_); refine store_event (t := 86) (p := 41) (v := ?vo_w18) (w1 := (wr.setCell ⟨go16, (x13_1 : Int).toNat, none⟩ (.int .u32 (((Go.bits .or .u64 (IntKind.u64.wrap (rd l0 x13_1)) (IntKind.u64.wrap ((IntKind.u64.wrap (rd l0 (ji11))) * 4294967296))) / 2 ^ a1.toNat) % 4294967296)))) ?hg ?ho ?hn ?hr ?_; (case ho => rfl); (case hg => rfl); (case hn => rfl); (case hr => first | (go_simp; done) | (go_simp; rfl)); intro w18 hw; have hg : wr.grownBy w18 (some go16) := (by rw [hw]; exact HP17.2); have hp_ : Kd.R (Kd.int .u32) 86 w18 w.heap.size (fun k_ => (w.heap.size ≤ k_)) (.slice (some ⟨go16, 0, none⟩) x5_1.length co16) y176 := (by rw [hw, Ny176.out]; exact HP17.1); clear HP17; have n0_ := Aside0.mk (hp_); have n1_ := Aside0.mk ((by rw [hw]; exact below_set (HB.out) GB16.out : Below w.heap.size w w18)); revert n0_ n1_; clear HO_5 HB; intro HO_5 HB; clear hg hw hp_))
     go_roundg k1
     case measure => have := HK1.out; omega
     case rel => exact ⟨(y176), (ji11), (by first | rfl | (simp; done) | (simp only [← hji11] <;> (first | rfl | simp)) | (simp [*]; done)), H', ⟨by have := HK1.out; omega⟩, ⟨by (with_reducible repeat (first | apply Kd.R_alloc | apply Kd.R_drewN | apply Kd.R_drew)); exact HO_5.out⟩, ⟨zH⟩⟩
    ·rw [if_neg c10] at H
     have c10b0 := decide_eq_false c10
     clear c10
     replace H := of_ite H
     obtain ⟨c19, H⟩ := H
     have c19b0 := eq_true c19
     have c19b1 := decide_eq_true c19
     clear c19
     replace H := of_ite H
     obtain ⟨c20, H⟩ := H
     have c20b0 := eq_true c20
     have c20b1 := decide_eq_true c20
     clear c20
     replace H := of_ite H
     obtain ⟨c21, H⟩ := H
     have c21b0 := decide_eq_true c21
     clear c21
     obtain ⟨y177, hy177⟩ : ∃ y_ : List Int, y_ = (x5_1.set (x13_1 : Int).toNat (((IntKind.u64.wrap (rd l0 x13_1)) / 2 ^ a1.toNat) % 4294967296)) := ⟨_, rfl⟩
     replace H : (N1unshift.l0 k1 l0 a1 y177 (l0.length : Int) (wrap64 (x13_1 + 1))) = some r := by first | (rw [hy177]; with_reducible exact H) | (have H2_ := (Option.bind_some _ _).symm.trans H; rw [hy177]; with_reducible exact H2_) | (have H2_ := (Option.bind_some _ _).symm.trans H; with_reducible exact H2_) | with_reducible exact H | (rw [hy177]; exact H) | exact H
     have Ny177 := Aside0.mk hy177
     clear hy177
     have H' := Aside0.mk H
     clear H
     have p174 : 0 ≤ (x13_1 : Int) := of_decide_eq_true zq0
     have q174 : x13_1 < (l0.length : Int) := of_decide_eq_true zq0
     obtain ⟨ad174, e174, hx174_0⟩ := Kd.at_int HR0.out x13_1 p174 q174
     cases e174
     (try replace hx174_0 := (HB.out.cell (World.block_lt_of_cell? w _ hx174_0)).trans hx174_0)
     replace p174 := eq_true p174
     replace q174 := eq_true q174
     have p22 : 0 ≤ (x13_1 : Int) := of_decide_eq_true zq0
     have q22 : (x13_1 : Int) < ((x5_1.length : Int) : Int) := of_decide_eq_true zq0
     obtain ⟨go22, co22, eo22, gb22, gl22, cl22, HG22⟩ := Kd.R_form HO_5.out (by omega)
     (first | cases eo22 | (injection eo22 with ea_ en_ ec_; (first | subst ea_ | (injection ea_ with ea_; subst ea_)); subst ec_; clear en_))
     have GB22 := Aside0.mk gb22
     have GG22 := Aside0.mk HG22
     clear gb22 gl22 HG22
     obtain ⟨hx22_0, hf22_0⟩ := Kd.R_celln 0 HO_5.out (x13_1 : Int) p22 q22
     (try simp only [Go.IntWalk.toNatUp] at hx22_0 hf22_0)
     replace p22 := eq_true p22
     replace q22 := eq_true q22
     have HP23 := Kd.R_putg HO_5.out (x13_1 : Int) (((IntKind.u64.wrap (rd l0 x13_1)) / 2 ^ a1.toNat) % 4294967296)
     go_wp2_with (first | ((with_reducible refine gate_store (t := 86) (p := 41) rfl ?_); refine store_event (t := 86) (p := 41) (v := ?vo_w24) (w1 := (wr.setCell ⟨go22, (x13_1 : Int).toNat, none⟩ (.int .u32 (((IntKind.u64.wrap (rd l0 x13_1)) / 2 ^ a1.toNat) % 4294967296)))) ?hg ?ho ?hn ?hr ?_; (case ho => rfl); (case hg => rfl); (case hn => rfl); (case hr => first | (go_simp; done) | (go_simp; rfl)); intro w24 hw; have hg : wr.grownBy w24 (some go22) := (by rw [hw]; exact HP23.2); have hp_ : Kd.R (Kd.int .u32) 86 w24 w.heap.size (fun k_ => (w.heap.size ≤ k_)) (.slice (some ⟨go22, 0, none⟩) x5_1.length co22) y177 := (by rw [hw, Ny177.out]; exact HP23.1); clear HP23; have n0_ := Aside0.mk (hp_); have n1_ := Aside0.mk ((by rw [hw]; exact below_set (HB.out) GB22.out : Below w.heap.size w w24)); revert n0_ n1_; clear HO_5 HB; intro HO_5 HB; clear hg hw hp_))
     go_roundg k1
     case measure => have := HK1.out; omega
     case rel => exact ⟨(y177), (wrap64 (x13_1 + 1)), zq1, H', ⟨by have := HK1.out; omega⟩, ⟨by (with_reducible repeat (first | apply Kd.R_alloc | apply Kd.R_drewN | apply Kd.R_drew)); exact HO_5.out⟩, ⟨zH⟩⟩
   ·rw [if_neg c7] at H
    have c7b0 := decide_eq_false c7
    clear c7
    replace H := Option.bind_eq_some_iff.mp H
    obtain ⟨t178, A250, H⟩ := H
    (try dsimp only at H)
    have A25 := Aside0.mk A250
    clear A250
    obtain rfl := Option.some.inj H
    obtain ⟨Ao26, co26, eo26⟩ := Kd.R_slice HO_5.out
    subst eo26
    go_wp2_with (first | (refine goesLA 44 Tryd.func86 #[.slice Ao26 x5_1.length co26] ?_; (with_reducible refine (N1limbs_trim.calls k1 (fun k_ => some k_ = (.slice Ao26 x5_1.length co26 : Value).ownBlock) _ _ x5_1 t178 _ ?side1 A25.out).mono ?_); (case side1 => exact Kd.R_V (Kd.R_tight rfl (HO_5.out))); rintro e w27 ⟨v179, rfl, ho0, hb⟩; refine ⟨_, rfl, ?_⟩; have n0_ := Aside0.mk (Kd.R_below zq22 hb); have n1_ := Aside0.mk (Kd.V_lower (Kd.V_mono (ok' := fun k_ => (w.heap.size ≤ k_)) ho0 (fun k_ hk_ => Or.elim hk_ (fun hs_ => ((HO_5.out).1 k_ hs_.symm)) (fun hn_ => (Nat.le_trans (below_size zH) hn_)))) (below_size zH)); have n2_ := sB hb; revert n0_ n1_ n2_; clear HO_5 HB; intro HO_5 HO180 HB; (try clear hb); (try clear hb2); (try clear hk); (try clear hi); (try clear ho0)))
    go_ret
    exact ⟨_, zE, by (with_reducible repeat (first | apply Kd.V_alloc | apply Kd.V_drewN | apply Kd.V_drew)); exact HO180.out, zH⟩
def N1divide.l0 : Nat → Int → Int → List Int → List Int → List Int → Int → Option (List Int × List Int)
 | 0, _, _, _, _, _, _ => none
 | k + 1, x8, x9, x10, x11, x12, x13 => if x13 ≥ 0 then (if 0 ≤ x13 then (if x13 ≤ (wrap64 ((wrap64 (x13 + x9)) + 1)) then (if (wrap64 ((wrap64 (x13 + x9)) + 1)) ≤ (x11.length : Int) then ((N1stepc.f k x11 x13 (wrap64 ((wrap64 (x13 + x9)) + 1)) x10).bind fun bt204 => (if x13 < (x12.length : Int) then (N1divide.l0 k x8 x9 x10 bt204.2 (x12.set (x13 : Int).toNat bt204.1) (wrap64 (x13 - 1))) else (none))) else (none)) else (none)) else (none)) else ((N1limbs_trim.f k x12).bind fun t207 => (if 0 ≤ x9 then (if x9 ≤ (x11.length : Int) then ((N1unshift.f k (x11.take (x9 : Int).toNat) x8).bind fun t214 => (some (t207, t214))) else (none)) else (none)))
def N1divide.f (k : Nat) (l0 : List Int) (l1 : List Int) : Option (List Int × List Int) := (N1compare.f k l0 l1).bind fun t181 => (if t181 < 0 then (some (([] : List Int), l0)) else (if (l1.length : Int) = 1 then (if 0 < (l1.length : Int) then ((N1divideSmall.f k l0 (rd l1 0)).bind fun bt183 => ((N1limbs_trim.f k (([bt183.2] : List Int))).bind fun t190 => (some (bt183.1, t190)))) else (none)) else (if 0 ≤ (wrap64 ((l1.length : Int) - 1)) then (if (wrap64 ((l1.length : Int) - 1)) < (l1.length : Int) then ((bits_LeadingZeros32.f (rd l1 (wrap64 ((l1.length : Int) - 1)))).bind fun t194 => ((N1shift.f k l1 (IntKind.u64.wrap (t194)) (l1.length : Int)).bind fun t195 => ((N1shift.f k l0 (IntKind.u64.wrap (t194)) (wrap64 ((l0.length : Int) + 1))).bind fun t198 => (if 0 ≤ (wrap64 ((wrap64 ((l0.length : Int) - (l1.length : Int))) + 1)) then (if (wrap64 ((wrap64 ((l0.length : Int) - (l1.length : Int))) + 1) : Int).toNat ≤ 70368744177664 then ((some (List.replicate (wrap64 ((wrap64 ((l0.length : Int) - (l1.length : Int))) + 1) : Int).toNat 0 : List Int)).bind fun y201 => (N1divide.l0 k (IntKind.u64.wrap (t194)) (l1.length : Int) t195 t198 y201 (wrap64 ((y201.length : Int) - 1)))) else (none)) else (none))))) else (none)) else (none))))
def N1divide.T15 : Bool × List (List Nat × List Nat) := (true, [([], []), ([0], [0]), ([], []), ([], []), ([2, 3], [2, 3]), ([], []), ([4, 5, 1], [4, 5]), ([1, 6, 0, 1], [1]), ([6, 7, 0, 1, 2, 3, 4, 5, 6, 7], [6])])
def N1divide.B15 : List Nat := [0, 1, 0, 0, 12, 0, 63, 127, 255]
theorem N1divide.tab15 : rtab .any (opsOf Tryd.f85 15) = N1divide.T15 := by kernel_rfl
theorem N1divide.bits15 : waitsOk N1divide.T15.2 N1divide.B15 = true := by kernel_rfl
set_option maxHeartbeats 8000000 in
set_option maxRecDepth 100000 in
theorem N1divide.calls (k : Nat) (P0_ : Nat → Prop) (A0 : Option Addr) (c0 : Nat) (l0 : List Int) (A1 : Option Addr) (c1 : Nat) (l1 : List Int) (r1 : List Int) (r2 : List Int) (w : World) (hs0 : Kd.V (Kd.int .u32) 86 w w.heap.size (fun k_ => P0_ k_) (.slice A0 l0.length c0) l0) (hr1 : Kd.C (Kd.int .u32) w A1 l1.length l1) (hc1 : l1.length ≤ c1) (h : N1divide.f k l0 l1 = some (r1, r2)) :
 Calls Tryd.prog 85 #[.slice A0 l0.length c0, .slice A1 l1.length c1] w fun e w' => ∃ v0_ v1_ : Value, e = .returned (.tuple #[v0_, v1_]) ∧ Kd.V (Kd.int .u32) 86 w' w.heap.size (fun k_ => (P0_ k_ ∨ w.heap.size ≤ k_)) v0_ r1 ∧ Kd.V (Kd.int .u32) 86 w' w.heap.size (fun k_ => (P0_ k_ ∨ w.heap.size ≤ k_)) v1_ r2 ∧ Below w.heap.size w w' := by
 have HO0 := Aside0.mk (show Kd.V (Kd.int .u32) 86 w w.heap.size (fun k_ => (P0_ k_ ∨ w.heap.size ≤ k_)) (.slice A0 l0.length c0) l0 from Kd.V_mono hs0 (fun k_ hk => .inl hk))
 have HR1 := Aside0.mk hr1
 have HC1 := Aside0.mk hc1
 clear hr1 hc1
 have HB := Aside0.mk (Below.refl w.heap.size w)
 have H : ((N1compare.f k l0 l1).bind fun t181 => (if t181 < 0 then (some (([] : List Int), l0)) else (if (l1.length : Int) = 1 then (if 0 < (l1.length : Int) then ((N1divideSmall.f k l0 (rd l1 0)).bind fun bt183 => ((N1limbs_trim.f k (([bt183.2] : List Int))).bind fun t190 => (some (bt183.1, t190)))) else (none)) else (if 0 ≤ (wrap64 ((l1.length : Int) - 1)) then (if (wrap64 ((l1.length : Int) - 1)) < (l1.length : Int) then ((bits_LeadingZeros32.f (rd l1 (wrap64 ((l1.length : Int) - 1)))).bind fun t194 => ((N1shift.f k l1 (IntKind.u64.wrap (t194)) (l1.length : Int)).bind fun t195 => ((N1shift.f k l0 (IntKind.u64.wrap (t194)) (wrap64 ((l0.length : Int) + 1))).bind fun t198 => (if 0 ≤ (wrap64 ((wrap64 ((l0.length : Int) - (l1.length : Int))) + 1)) then (if (wrap64 ((wrap64 ((l0.length : Int) - (l1.length : Int))) + 1) : Int).toNat ≤ 70368744177664 then ((some (List.replicate (wrap64 ((wrap64 ((l0.length : Int) - (l1.length : Int))) + 1) : Int).toNat 0 : List Int)).bind fun y201 => (N1divide.l0 k (IntKind.u64.wrap (t194)) (l1.length : Int) t195 t198 y201 (wrap64 ((y201.length : Int) - 1)))) else (none)) else (none))))) else (none)) else (none))))) = some (r1, r2) := h
 clear h
 replace H := Option.bind_eq_some_iff.mp H
 obtain ⟨t181, A30, H⟩ := H
 (try dsimp only at H)
 have A3 := Aside0.mk A30
 clear A30
 by_cases c4 : t181 < 0
 ·rw [if_pos c4] at H
  have c4b0 := decide_eq_true c4
  clear c4
  simp only [Option.some.injEq, Prod.mk.injEq] at H
  obtain ⟨rfl, rfl⟩ := H
  go_enter Tryd.func85, Tryd.ntmps85
  go_wp2_with (first | (refine goesLA 16 Tryd.func88 #[.slice A0 l0.length c0, .slice A1 l1.length c1] ?_; (with_reducible refine (N1compare.calls k _ _ l0 _ _ l1 t181 _ ?side1 ?side2 ?side3 ?side4 A3.out).mono ?_); (case side1 => repeat (first | exact (Kd.V_reads' HO0.out).2.2 | (with_reducible refine Kd.C_alloc ?_ _) | (with_reducible refine Kd.C_drewN ?_ _) | (with_reducible refine Kd.C_drew ?_))); (case side2 => exact (Kd.V_reads' HO0.out).2.1); (case side3 => repeat (first | exact HR1.out | (with_reducible refine Kd.C_alloc ?_ _) | (with_reducible refine Kd.C_drewN ?_ _) | (with_reducible refine Kd.C_drew ?_))); (case side4 => exact HC1.out); rintro e w' ⟨rfl, ⟨nd, rfl⟩⟩; refine ⟨_, rfl, ?_⟩))
  go_ret2
  exact ⟨_, _, zE, Kd.V_mono (Kd.R_V zq47) (fun k_ hk => by first | exact ⟨(.inr (hk.1)), hk.2⟩ | exact (.inr (hk))), by (with_reducible repeat (first | apply Kd.V_alloc | apply Kd.V_drewN | apply Kd.V_drew)); exact HO0.out, zH⟩
 ·rw [if_neg c4] at H
  have c4b0 := decide_eq_false c4
  clear c4
  by_cases c5 : (l1.length : Int) = 1
  ·rw [if_pos c5] at H
   have c5b0 := beq_iff_eq.mpr c5
   have c5b1 : ((l1.length : Int) != 1) = false := bne_eq_false_iff_eq.mpr c5
   clear c5
   replace H := of_ite H
   obtain ⟨c6, H⟩ := H
   have c6b0 := decide_eq_true c6
   have c6b1 : decide (0 < l1.length) = true := decide_eq_true (by omega)
   clear c6
   replace H := Option.bind_eq_some_iff.mp H
   obtain ⟨⟨t183, t186⟩, A70, H⟩ := H
   (try dsimp only at H)
   have A7 := Aside0.mk A70
   clear A70
   obtain ⟨y187, hy187⟩ : ∃ y_ : List Int, y_ = (([t186] : List Int)) := ⟨_, rfl⟩
   replace H : ((N1limbs_trim.f k y187).bind fun t190 => (some (t183, t190))) = some (r1, r2) := by first | (rw [hy187]; with_reducible exact H) | (have H2_ := (Option.bind_some _ _).symm.trans H; rw [hy187]; with_reducible exact H2_) | (have H2_ := (Option.bind_some _ _).symm.trans H; with_reducible exact H2_) | with_reducible exact H | (rw [hy187]; exact H) | exact H
   have Ny187 := Aside0.mk hy187
   clear hy187
   replace H := Option.bind_eq_some_iff.mp H
   obtain ⟨t190, A80, H⟩ := H
   (try dsimp only at H)
   have A8 := Aside0.mk A80
   clear A80
   simp only [Option.some.injEq, Prod.mk.injEq] at H
   obtain ⟨rfl, rfl⟩ := H
   go_enter Tryd.func85, Tryd.ntmps85
   go_wp2_with (first | (refine goesLA 16 Tryd.func88 #[.slice A0 l0.length c0, .slice A1 l1.length c1] ?_; (with_reducible refine (N1compare.calls k _ _ l0 _ _ l1 t181 _ ?side1 ?side2 ?side3 ?side4 A3.out).mono ?_); (case side1 => repeat (first | exact (Kd.V_reads' HO0.out).2.2 | (with_reducible refine Kd.C_alloc ?_ _) | (with_reducible refine Kd.C_drewN ?_ _) | (with_reducible refine Kd.C_drew ?_))); (case side2 => exact (Kd.V_reads' HO0.out).2.1); (case side3 => repeat (first | exact HR1.out | (with_reducible refine Kd.C_alloc ?_ _) | (with_reducible refine Kd.C_drewN ?_ _) | (with_reducible refine Kd.C_drew ?_))); (case side4 => exact HC1.out); rintro e w' ⟨rfl, ⟨nd, rfl⟩⟩; refine ⟨_, rfl, ?_⟩; have p182 : 0 ≤ (0 : Int) := (by omega); have q182 : 0 < (l1.length : Int) := of_decide_eq_true zq0; obtain ⟨ad182, e182, hx182_0⟩ := Kd.at_int HR1.out 0 p182 q182; cases e182; have qi182 : (0 < l1.length) = True := eq_true (by omega); (try rw [show ((0 : Int)).toNat = 0 from rfl] at hx182_0); (try rw [Addr.add_zero'] at hx182_0); replace p182 := eq_true p182; replace q182 := eq_true q182) | (refine goesLA 27 Tryd.func97 #[.slice A0 l0.length c0, .int .u32 (rd l1 0)] ?_; (with_reducible refine (N1divideSmall.calls k _ _ l0 (rd l1 0) t183 t186 _ ?side1 ?side2 A7.out).mono ?_); (case side1 => repeat (first | exact (Kd.V_reads' HO0.out).2.2 | (with_reducible refine Kd.C_alloc ?_ _) | (with_reducible refine Kd.C_drewN ?_ _) | (with_reducible refine Kd.C_drew ?_))); (case side2 => exact (Kd.V_reads' HO0.out).2.1); rintro e w9 ⟨v184, rfl, ho0, hb⟩; refine ⟨_, rfl, ?_⟩; have n0_ := Aside0.mk (Kd.V_below zq6 hb); have n1_ := Aside0.mk (Kd.V_lower (Kd.V_mono (ok' := fun k_ => (P0_ k_ ∨ w.heap.size ≤ k_)) ho0 (fun k_ hk_ => (.inr (Nat.le_trans (below_size zH) hk_)))) (below_size zH)); have n2_ := sB hb; revert n0_ n1_ n2_; clear HO0 HB; intro HO0 HO185 HB; (try clear hb); (try clear hb2); (try clear hk); (try clear hi); (try clear ho0)) | ((with_reducible refine gate_dst (N := 32) rfl ?_); refine Kd.R_lit (Kd.int .u32) _ 86 ?hg (N := 32) ?hd (xs := ([t186] : List Int)) (inner := [.int .u32 t186]) (ok := fun _ => True) (okp := fun _ => True) ?hr ?hp (fun _ hk => hk) trivial (Below.refl _ _) (Nat.le_refl _) (by simp) ?_; (case hd => rfl); (case hg => rfl); (case hr => first | (go_simp; done) | (go_simp; rfl)); (case hp => exact (Reps.one (show Kd.M (Kd.int .u32) _ _ _ t186 [.int .u32 t186] from rfl) (Reps.none _ _))); intro v188 w10 ho11 hb hg_ hnew_; clear hg_ hnew_; (first | rw [← Ny187.out] at ho11 | (simp only [Int.reduceToNat] at ho11; rw [← Ny187.out] at ho11)); have n0_ := Aside0.mk (Kd.V_elder' zq6 (Kd.R_base ho11) hb); have n1_ := Aside0.mk (Kd.V_elder' (by (with_reducible repeat (first | apply Kd.V_alloc | apply Kd.V_drewN | apply Kd.V_drew)); exact HO185.out) (Kd.R_base ho11) hb); have n2_ := Aside0.mk (Kd.R_lower (Kd.R_newM (M := fun k_ => (w.heap.size ≤ k_)) ho11 (below_size zH) (fun k_ h_ => h_)) (below_size zH)); have n3_ := sB hb; revert n0_ n1_ n2_ n3_; clear HO0 HO185 HB; intro HO0 HO185 HO189 HB; clear hb ho11; obtain ⟨Ao12, co12, eo12⟩ := Kd.R_slice HO189.out; subst eo12) | (refine goesLA 33 Tryd.func86 #[.slice Ao12 y187.length co12] ?_; (with_reducible refine (N1limbs_trim.calls k (fun k_ => some k_ = (.slice Ao12 y187.length co12 : Value).ownBlock) _ _ y187 t190 _ ?side1 A8.out).mono ?_); (case side1 => exact Kd.R_V (Kd.R_tight rfl (HO189.out))); rintro e w13 ⟨v191, rfl, ho0, hb⟩; refine ⟨_, rfl, ?_⟩; have n0_ := Aside0.mk (Kd.V_below zq6 hb); have n1_ := Aside0.mk (Kd.V_below (by (with_reducible repeat (first | apply Kd.V_alloc | apply Kd.V_drewN | apply Kd.V_drew)); exact HO185.out) hb); have n2_ := Aside0.mk (Kd.R_below (by (with_reducible repeat (first | apply Kd.R_alloc | apply Kd.R_drewN | apply Kd.R_drew)); exact HO189.out) hb); have n3_ := Aside0.mk (Kd.V_lower (Kd.V_mono (ok' := fun k_ => (P0_ k_ ∨ w.heap.size ≤ k_)) ho0 (fun k_ hk_ => Or.elim hk_ (fun hs_ => (.inr (((HO189.out).1 k_ hs_.symm).1))) (fun hn_ => (.inr (Nat.le_trans (below_size zH) hn_))))) (below_size zH)); have n4_ := sB hb; revert n0_ n1_ n2_ n3_ n4_; clear HO0 HO185 HO189 HB; intro HO0 HO185 HO189 HO192 HB; (try clear hb); (try clear hb2); (try clear hk); (try clear hi); (try clear ho0)))
   go_ret2
   exact ⟨_, _, zE, by (with_reducible repeat (first | apply Kd.V_alloc | apply Kd.V_drewN | apply Kd.V_drew)); exact Kd.V_mono HO185.out (fun _ hk => hk.1), by (with_reducible repeat (first | apply Kd.V_alloc | apply Kd.V_drewN | apply Kd.V_drew)); exact HO192.out, zH⟩
  ·rw [if_neg c5] at H
   have c5b0 := beq_eq_false_iff_ne.mpr c5
   have c5b1 := bne_iff_ne.mpr c5
   obtain ⟨ji14, hji14⟩ : ∃ j_ : Int, (wrap64 ((l1.length : Int) - 1)) = j_ := ⟨_, rfl⟩
   first | rw [hji14] at H | simp only [hji14] at H
   (try rw [hji14] at A3)
   have hji14w : (IntKind.i64.wrap ((l1.length : Int) - 1)) = ji14 := (i64_w _).trans hji14
   replace H := of_ite H
   obtain ⟨c15, H⟩ := H
   have c15b0 := decide_eq_true c15
   clear c15
   replace H := of_ite H
   obtain ⟨c16, H⟩ := H
   have c16b0 := decide_eq_true c16
   clear c16
   replace H := Option.bind_eq_some_iff.mp H
   obtain ⟨t194, A170, H⟩ := H
   (try dsimp only at H)
   have A17 := Aside0.mk A170
   clear A170
   replace H := Option.bind_eq_some_iff.mp H
   obtain ⟨t195, A180, H⟩ := H
   (try dsimp only at H)
   have A18 := Aside0.mk A180
   clear A180
   replace H := Option.bind_eq_some_iff.mp H
   obtain ⟨t198, A190, H⟩ := H
   (try dsimp only at H)
   have A19 := Aside0.mk A190
   clear A190
   obtain ⟨ji20, hji20⟩ : ∃ j_ : Int, (wrap64 ((wrap64 ((l0.length : Int) - (l1.length : Int))) + 1)) = j_ := ⟨_, rfl⟩
   first | rw [hji20] at H | simp only [hji20] at H
   (try rw [hji20] at A3)
   (try rw [hji20] at A17)
   (try rw [hji20] at A18)
   (try rw [hji20] at A19)
   have hji20w : (IntKind.i64.wrap ((wrap64 ((l0.length : Int) - (l1.length : Int))) + 1)) = ji20 := (i64_w _).trans hji20
   replace H := of_ite H
   obtain ⟨c21, H⟩ := H
   have c21b0 := eq_true c21
   have c21b1 := decide_eq_true c21
   clear c21
   replace H := of_ite H
   obtain ⟨c22, H⟩ := H
   have c22b0 := eq_true c22
   have c22b1 := decide_eq_true c22
   clear c22
   obtain ⟨y201, hy201⟩ : ∃ y_ : List Int, y_ = (List.replicate (ji20 : Int).toNat 0) := ⟨_, rfl⟩
   replace H : (N1divide.l0 k (IntKind.u64.wrap (t194)) (l1.length : Int) t195 t198 y201 (wrap64 ((y201.length : Int) - 1))) = some (r1, r2) := by first | (rw [hy201]; with_reducible exact H) | (have H2_ := (Option.bind_some _ _).symm.trans H; rw [hy201]; with_reducible exact H2_) | (have H2_ := (Option.bind_some _ _).symm.trans H; with_reducible exact H2_) | with_reducible exact H | (rw [hy201]; exact H) | exact H
   have Ny201 := Aside0.mk hy201
   clear hy201
   have H' := Aside0.mk H
   clear H
   go_enter Tryd.func85, Tryd.ntmps85
   go_wp2_with (first | (refine goesLA 16 Tryd.func88 #[.slice A0 l0.length c0, .slice A1 l1.length c1] ?_; (with_reducible refine (N1compare.calls k _ _ l0 _ _ l1 t181 _ ?side1 ?side2 ?side3 ?side4 A3.out).mono ?_); (case side1 => repeat (first | exact (Kd.V_reads' HO0.out).2.2 | (with_reducible refine Kd.C_alloc ?_ _) | (with_reducible refine Kd.C_drewN ?_ _) | (with_reducible refine Kd.C_drew ?_))); (case side2 => exact (Kd.V_reads' HO0.out).2.1); (case side3 => repeat (first | exact HR1.out | (with_reducible refine Kd.C_alloc ?_ _) | (with_reducible refine Kd.C_drewN ?_ _) | (with_reducible refine Kd.C_drew ?_))); (case side4 => exact HC1.out); rintro e w' ⟨rfl, ⟨nd, rfl⟩⟩; refine ⟨_, rfl, ?_⟩; have p193 : 0 ≤ ((ji14) : Int) := of_decide_eq_true zq0; have q193 : (ji14) < (l1.length : Int) := of_decide_eq_true zq0; obtain ⟨ad193, e193, hx193_0⟩ := Kd.at_int HR1.out (ji14) p193 q193; cases e193; replace p193 := eq_true p193; replace q193 := eq_true q193) | ((with_reducible refine gate_callee (f := 98) rfl ?_); refine goesL_ (some 40) rfl rfl Tryd.func98 (by kernel_rfl) rfl #[.int .u32 (rd l1 (ji14))] rfl (by (try simp only [List.map_toArray, List.map_cons, List.map_nil]); first | done | (simp only [hji14]; rfl) | rfl | (simp only [List.length_drop, List.length_take]; rfl)) ?_; (with_reducible refine (bits_LeadingZeros32.calls (rd l1 (ji14)) t194 _ A17.out).mono ?_); rintro e w' ⟨rfl, ⟨nd, rfl⟩⟩; refine ⟨_, rfl, ?_⟩) | (refine goesLA 47 Tryd.func99 #[.slice (some ad193) l1.length c1, .int .u64 (IntKind.u64.wrap (t194)), .int .i64 (l1.length : Int)] ?_; (with_reducible refine (N1shift.calls k _ _ l1 (IntKind.u64.wrap (t194)) (l1.length : Int) t195 _ ?side1 ?side2 A18.out).mono ?_); (case side1 => repeat (first | exact HR1.out | (with_reducible refine Kd.C_alloc ?_ _) | (with_reducible refine Kd.C_drewN ?_ _) | (with_reducible refine Kd.C_drew ?_))); (case side2 => exact HC1.out); rintro e w23 ⟨v196, rfl, ho0, hb⟩; refine ⟨_, rfl, ?_⟩; have n0_ := Aside0.mk (Kd.V_elder' zq6 (Kd.R_base ho0) hb); have n1_ := Aside0.mk (Kd.R_lower (Kd.R_newM (M := fun k_ => (w.heap.size ≤ k_)) ho0 (below_size zH) (fun k_ h_ => h_)) (below_size zH)); have n2_ := sB hb; revert n0_ n1_ n2_; clear HO0 HB; intro HO0 HO197 HB; (try clear hb); (try clear hb2); (try clear hk); (try clear hi); (try clear ho0)) | (refine goesLA 53 Tryd.func99 #[.slice A0 l0.length c0, .int .u64 (IntKind.u64.wrap (t194)), .int .i64 (wrap64 ((l0.length : Int) + 1))] ?_; (with_reducible refine (N1shift.calls k _ _ l0 (IntKind.u64.wrap (t194)) (wrap64 ((l0.length : Int) + 1)) t198 _ ?side1 ?side2 A19.out).mono ?_); (case side1 => repeat (first | exact (Kd.V_reads' HO0.out).2.2 | (with_reducible refine Kd.C_alloc ?_ _) | (with_reducible refine Kd.C_drewN ?_ _) | (with_reducible refine Kd.C_drew ?_))); (case side2 => exact (Kd.V_reads' HO0.out).2.1); rintro e w24 ⟨v199, rfl, ho0, hb⟩; refine ⟨_, rfl, ?_⟩; have n0_ := Aside0.mk (Kd.V_elder' zq6 (Kd.R_base ho0) hb); have n1_ := Aside0.mk (Kd.R_elder' zq23 (Kd.R_base ho0) hb); have n2_ := Aside0.mk (Kd.R_lower (Kd.R_new' (Kd.R_newM (M := fun k_ => (w.heap.size ≤ k_)) ho0 (below_size zH) (fun k_ h_ => h_)) (Kd.R_lt zq23)) (below_size zH)); have n3_ := sB hb; revert n0_ n1_ n2_ n3_; clear HO0 HO197 HB; intro HO0 HO197 HO200 HB; (try clear hb); (try clear hb2); (try clear hk); (try clear hi); (try clear ho0)) | ((with_reducible refine gate_dst (N := 59) rfl ?_); refine Kd.R_make (Kd.int .u32) _ 86 rfl (N := 59) rfl 84 _ _ rfl ji20 rfl rfl Tryd.underlying84 (.int .u32 0) 4 info86 rfl (by decide) (by omega) 0 (ok := fun _ => True) (okp := fun _ => True) rfl (fun _ hk => hk) trivial (of_decide_eq_true zq0) (Nat.le_trans (Nat.mul_le_mul_right _ (of_decide_eq_true zq0 : ji20.toNat ≤ 70368744177664)) (by omega)) (Below.refl _ _) (Nat.le_refl _) ?_; intro v202 w25 ho26 hb hg_ hnew_; clear hg_ hnew_; (first | rw [← Ny201.out] at ho26 | (simp only [Int.reduceToNat] at ho26; rw [← Ny201.out] at ho26)); have n0_ := Aside0.mk (Kd.V_elder' zq6 (Kd.R_base ho26) hb); have n1_ := Aside0.mk (Kd.R_elder' zq23 (Kd.R_base ho26) hb); have n2_ := Aside0.mk (Kd.R_elder' (by (with_reducible repeat (first | apply Kd.R_alloc | apply Kd.R_drewN | apply Kd.R_drew)); exact HO200.out) (Kd.R_base ho26) hb); have n3_ := Aside0.mk (Kd.R_lower (Kd.R_new' (Kd.R_new' (Kd.R_newM (M := fun k_ => (w.heap.size ≤ k_)) ho26 (below_size zH) (fun k_ h_ => h_)) (Kd.R_lt zq23)) (Kd.R_lt (by (with_reducible repeat (first | apply Kd.R_alloc | apply Kd.R_drewN | apply Kd.R_drew)); exact HO200.out))) (below_size zH)); have n4_ := sB hb; revert n0_ n1_ n2_ n3_ n4_; clear HO0 HO197 HO200 HB; intro HO0 HO197 HO200 HO203 HB; clear hb ho26; obtain ⟨Ao27, co27, eo27⟩ := Kd.R_slice HO203.out; subst eo27))
   go_loopg [13] k (fun kq v13 w' => ∃ (x10_1 : List Int) (x11_1 : List Int) (x12_1 : List Int) (x13_1 : Int), v13 = .int .i64 x13_1 ∧ Aside0 (N1divide.l0 kq (IntKind.u64.wrap (t194)) (l1.length : Int) x10_1 x11_1 x12_1 x13_1 = some (r1, r2)) ∧ Aside0 (kq ≤ k) ∧ Aside0 (Kd.R (Kd.int .u32) 86 w' w.heap.size (fun k_ => (w.heap.size ≤ k_) ∧ some k_ ≠ (v199 : Value).ownBlock ∧ some k_ ≠ ((.slice Ao27 y201.length co27) : Value).ownBlock) v196 x10_1) ∧ Aside0 (Kd.R (Kd.int .u32) 86 w' w.heap.size (fun k_ => (w.heap.size ≤ k_) ∧ some k_ ≠ (v196 : Value).ownBlock ∧ some k_ ≠ ((.slice Ao27 y201.length co27) : Value).ownBlock) v199 x11_1) ∧ Aside0 (Kd.R (Kd.int .u32) 86 w' w.heap.size (fun k_ => (w.heap.size ≤ k_) ∧ some k_ ≠ (v196 : Value).ownBlock ∧ some k_ ≠ (v199 : Value).ownBlock) (.slice Ao27 y201.length co27) x12_1) ∧ Aside0 (Below w.heap.size w w'))
   case atStart => exact ⟨(t195), (t198), (y201), (wrap64 ((y201.length : Int) - 1)), zq1, H', ⟨Nat.le_refl _⟩, ⟨by (with_reducible repeat (first | apply Kd.R_alloc | apply Kd.R_drewN | apply Kd.R_drew)); exact Kd.R_mono HO197.out (fun _ hk => ⟨hk.1.1.1, ⟨hk.1.2, hk.2⟩⟩)⟩, ⟨by (with_reducible repeat (first | apply Kd.R_alloc | apply Kd.R_drewN | apply Kd.R_drew)); exact Kd.R_mono HO200.out (fun _ hk => ⟨hk.1.1.1, ⟨hk.1.2, hk.2⟩⟩)⟩, ⟨by (with_reducible repeat (first | apply Kd.R_alloc | apply Kd.R_drewN | apply Kd.R_drew)); exact Kd.R_mono HO203.out (fun _ hk => ⟨hk.1.1.1, ⟨hk.1.2, hk.2⟩⟩)⟩, ⟨zH⟩⟩
   case round =>
    clear H'
    (try clear c1); (try clear p1); (try clear q1); (try clear hx1); (try clear qi1); (try clear c2); (try clear p2); (try clear c4); (try clear c4b0); (try clear c5); (try clear c5b0); (try clear c5b1); (try clear c6); (try clear c6b0); (try clear c6b1); (try clear p6); (try clear c8); (try clear c9); (try clear c15); (try clear c15b0); (try clear c16); (try clear c16b0); (try clear p18); (try clear q18); (try clear hx18); (try clear qi18); (try clear p19); (try clear q19); (try clear hx19); (try clear c21); (try clear c21b0); (try clear c21b1); (try clear c22); (try clear c22b0); (try clear c22b1); (try clear hx182_0); (try clear hx193_0); (try clear p182); (try clear p193); (try clear q182); (try clear q193)
    obtain ⟨x10_1, x11_1, x12_1, x13_1, rfl, HA, HK1, HO_10, HO_11, HO_12, HB⟩ := hrel
    have hl12_1 := (Kd.R_reads' HO_12.out).1
    rw [hl12_1] at HO_12
    (try simp only [hl12_1])
    (try simp only [hl12_1] at HO_10)
    (try simp only [hl12_1] at HO_11)
    cases gk with
    | zero => exact absurd HA.out (by simp [N1divide.l0])
    | succ k1 =>
     have H := HA.out
     clear HA
     simp only [N1divide.l0] at H
     by_cases c28 : x13_1 ≥ 0
     ·rw [if_pos c28] at H
      have c28b0 := decide_eq_true c28
      clear c28
      replace H := of_ite H
      obtain ⟨c29, H⟩ := H
      have c29b0 := eq_true c29
      have c29b1 := decide_eq_true c29
      clear c29
      replace H := of_ite H
      obtain ⟨c30, H⟩ := H
      have c30b0 := eq_true c30
      have c30b1 := decide_eq_true c30
      replace H := of_ite H
      obtain ⟨c31, H⟩ := H
      have c31b0 := eq_true c31
      have c31b1 := decide_eq_true c31
      replace H := Option.bind_eq_some_iff.mp H
      obtain ⟨⟨t204, t205⟩, A320, H⟩ := H
      (try dsimp only at H)
      have A32 := Aside0.mk A320
      clear A320
      replace H := of_ite H
      obtain ⟨c33, H⟩ := H
      have c33b0 := decide_eq_true c33
      (try (have c33x0 := c33b0; simp only [hl12_1] at c33x0))
      clear c33
      obtain ⟨y206, hy206⟩ : ∃ y_ : List Int, y_ = (x12_1.set (x13_1 : Int).toNat t204) := ⟨_, rfl⟩
      replace H : (N1divide.l0 k1 (IntKind.u64.wrap (t194)) (l1.length : Int) x10_1 t205 y206 (wrap64 (x13_1 - 1))) = some (r1, r2) := by first | (rw [hy206]; with_reducible exact H) | (have H2_ := (Option.bind_some _ _).symm.trans H; rw [hy206]; with_reducible exact H2_) | (have H2_ := (Option.bind_some _ _).symm.trans H; with_reducible exact H2_) | with_reducible exact H | (rw [hy206]; exact H) | exact H
      have Ny206 := Aside0.mk hy206
      clear hy206
      have H' := Aside0.mk H
      clear H
      obtain ⟨Ao35, co35, eo35⟩ := Kd.R_slice HO_11.out
      subst eo35
      obtain ⟨Ao36, co36, eo36⟩ := Kd.R_slice HO_10.out
      subst eo36
      obtain ⟨i0cq, hi0cq, _, hszcq, _⟩ := info_parts info86
      have hcutcq := cut_mid (P := Tryd.prog) 84 86 .i64 .i64 Tryd.underlying84 hi0cq 1 hszcq Ao35 x11_1.length co35 x13_1 (wrap64 ((wrap64 (x13_1 + (l1.length : Int))) + 1)) (of_eq_true c29b0) (of_eq_true c30b0) (of_eq_true c31b0) (Kd.R_reads' HO_11.out).2.1
      obtain ⟨Acq, hAcq_⟩ : ∃ z_, z_ = (if co35 = (x13_1 : Int).toNat then Ao35 else (Ao35 : Option Addr).map (·.add ((x13_1 : Int).toNat * 1))) := ⟨_, rfl⟩
      obtain ⟨ncq, hncq_⟩ : ∃ z_, z_ = ((wrap64 ((wrap64 (x13_1 + (l1.length : Int))) + 1)) : Int).toNat - (x13_1 : Int).toNat := ⟨_, rfl⟩
      obtain ⟨ccq, hccq_⟩ : ∃ z_, z_ = co35 - (x13_1 : Int).toNat := ⟨_, rfl⟩
      rw [← hAcq_, ← hncq_, ← hccq_] at hcutcq
      have hAcq := Aside0.mk hAcq_
      have hncq := Aside0.mk hncq_
      have hccq := Aside0.mk hccq_
      have h0cq := Aside0.mk (of_eq_true c29b0)
      have hhcq := Aside0.mk (of_eq_true c31b0)
      clear hAcq_ hncq_ hccq_ hi0cq hszcq
      go_wp2_with (first | (refine goesLA 77 Tryd.func100 #[.slice Acq ncq ccq, .slice Ao36 x10_1.length co36] ?_; (with_reducible refine (N1stepc.calls k1 (fun k_ => some k_ = (.slice Ao35 x11_1.length co35 : Value).ownBlock) Ao35 co35 x11_1 x13_1 (wrap64 ((wrap64 (x13_1 + (l1.length : Int))) + 1)) _ _ x10_1 t204 t205 w _ ?side1 ?side2 ?side3 ?side4 h0cq.out hhcq.out hAcq.out hncq.out hccq.out A32.out).mono ?_); (case side1 => repeat (first | (with_reducible first | exact HB.out | apply below_alloc | apply pw_below_drewN | apply below_drew1) | exact HB.out)); (case side2 => exact Kd.R_tight rfl HO_11.out); (case side3 => exact Kd.C_kept_own (HO_10.out) (fun k_ hk_ hs_ => (hk_.2.1) hs_)); (case side4 => exact (Kd.R_reads' HO_10.out).2.1); rintro e w37 ⟨rfl, hy0, hb, hkp⟩; refine ⟨_, rfl, ?_⟩; have n0_ := Aside0.mk (Kd.R_mono (ok' := fun k_ => (w.heap.size ≤ k_) ∧ some k_ ≠ (.slice Ao35 x11_1.length co35 : Value).ownBlock ∧ some k_ ≠ (.slice Ao27 x12_1.length co27 : Value).ownBlock) (Kd.R_keptB (HO_10.out) hkp (fun k_ hk_ hs_ => (hk_.2.1) hs_)) (fun k_ hk_ => ⟨hk_.1.1, hk_.1.2.1, hk_.1.2.2⟩)); have n1_ := Aside0.mk (Kd.R_reok rfl hy0 (fun k_ e_ => HO_11.out.1 k_ e_)); have n2_ := Aside0.mk (Kd.R_mono (ok' := fun k_ => (w.heap.size ≤ k_) ∧ some k_ ≠ (.slice Ao36 x10_1.length co36 : Value).ownBlock ∧ some k_ ≠ (.slice Ao35 x11_1.length co35 : Value).ownBlock) (Kd.R_keptB (HO_12.out) hkp (fun k_ hk_ hs_ => (hk_.2.2) hs_)) (fun k_ hk_ => ⟨hk_.1.1, hk_.1.2.1, hk_.1.2.2⟩)); have n3_ := Aside0.mk (hb); revert n0_ n1_ n2_ n3_; clear HO_10 HO_11 HO_12 HB; intro HO_10 HO_11 HO_12 HB; (try clear hb); (try clear hkp); (try clear hy0); have p34 : 0 ≤ (x13_1 : Int) := of_decide_eq_true zq0; have q34 : (x13_1 : Int) < ((x12_1.length : Int) : Int) := of_decide_eq_true zq0; obtain ⟨go34, co34, eo34, gb34, gl34, cl34, HG34⟩ := Kd.R_form HO_12.out (by omega); (first | cases eo34 | (injection eo34 with ea_ en_ ec_; (first | subst ea_ | (injection ea_ with ea_; subst ea_)); subst ec_; clear en_)); have GB34 := Aside0.mk gb34; have GG34 := Aside0.mk HG34; clear gb34 gl34 HG34; obtain ⟨hx34_0, hf34_0⟩ := Kd.R_celln 0 HO_12.out (x13_1 : Int) p34 q34; replace p34 := eq_true p34; replace q34 := eq_true q34; obtain ⟨hy38_, hz38_⟩ := Kd.R_celln 0 HO_12.out (x13_1 : Int) (of_decide_eq_true zq0) (of_decide_eq_true zq0); have HP38 := Kd.R_putg HO_12.out (x13_1 : Int) t204) | ((with_reducible refine gate_store (t := 86) (p := 78) rfl ?_); refine store_event (t := 86) (p := 78) (v := ?vo_w39) (w1 := (w37.setCell ⟨go34, (x13_1 : Int).toNat, none⟩ (.int .u32 t204))) ?hg ?ho ?hn ?hr ?_; (case ho => rfl); (case hg => rfl); (case hn => rfl); (case hr => first | (go_simp; done) | (go_simp; rfl)); intro w39 hw; have hg : w37.grownBy w39 (some go34) := (by rw [hw]; exact HP38.2); have hp_ : Kd.R (Kd.int .u32) 86 w39 w.heap.size (fun k_ => (w.heap.size ≤ k_) ∧ some k_ ≠ (.slice Ao36 x10_1.length co36 : Value).ownBlock ∧ some k_ ≠ (.slice Ao35 x11_1.length co35 : Value).ownBlock) (.slice (some ⟨go34, 0, none⟩) x12_1.length co27) y206 := (by rw [hw, Ny206.out]; exact HP38.1); clear HP38; have n0_ := Aside0.mk (Kd.R_after (v := (.slice (some ⟨go34, 0, none⟩) x12_1.length co27)) (v1 := (.slice (some ⟨go34, 0, none⟩) x12_1.length co27)) (ok := (fun k_ => (w.heap.size ≤ k_) ∧ some k_ ≠ (.slice Ao35 x11_1.length co35 : Value).ownBlock)) (by (with_reducible repeat (first | apply Kd.R_alloc | apply Kd.R_drewN | apply Kd.R_drew)); exact Kd.R_mono HO_10.out (fun _ hk => ⟨⟨hk.1, hk.2.1⟩, hk.2.2⟩)) hg (.inl rfl)); have n1_ := Aside0.mk (Kd.R_after (v := (.slice (some ⟨go34, 0, none⟩) x12_1.length co27)) (v1 := (.slice (some ⟨go34, 0, none⟩) x12_1.length co27)) (ok := (fun k_ => (w.heap.size ≤ k_) ∧ some k_ ≠ (.slice Ao36 x10_1.length co36 : Value).ownBlock)) (by (with_reducible repeat (first | apply Kd.R_alloc | apply Kd.R_drewN | apply Kd.R_drew)); exact Kd.R_mono HO_11.out (fun _ hk => ⟨⟨hk.1, hk.2.1⟩, hk.2.2⟩)) hg (.inl rfl)); have n2_ := Aside0.mk (hp_); have n3_ := Aside0.mk ((by rw [hw]; exact below_set (HB.out) GB34.out : Below w.heap.size w w39)); revert n0_ n1_ n2_ n3_; clear HO_10 HO_11 HO_12 HB; intro HO_10 HO_11 HO_12 HB; clear hg hw hp_))
      (try simp only [← hl12_1])
      go_roundg k1
      case measure => have := HK1.out; omega
      case rel => exact ⟨(x10_1), (t205), (y206), (wrap64 (x13_1 - 1)), zq1, H', ⟨by have := HK1.out; omega⟩, ⟨by (try simp only [hl12_1]); (with_reducible repeat (first | apply Kd.R_alloc | apply Kd.R_drewN | apply Kd.R_drew)); exact Kd.R_mono HO_10.out (fun _ hk => ⟨hk.1.1, ⟨hk.1.2, hk.2⟩⟩)⟩, ⟨by (try simp only [hl12_1]); (with_reducible repeat (first | apply Kd.R_alloc | apply Kd.R_drewN | apply Kd.R_drew)); exact Kd.R_mono HO_11.out (fun _ hk => ⟨hk.1.1, ⟨hk.1.2, hk.2⟩⟩)⟩, ⟨by (try simp only [hl12_1]); (with_reducible repeat (first | apply Kd.R_alloc | apply Kd.R_drewN | apply Kd.R_drew)); exact HO_12.out⟩, ⟨zH⟩⟩
     ·rw [if_neg c28] at H
      have c28b0 := decide_eq_false c28
      clear c28
      replace H := Option.bind_eq_some_iff.mp H
      obtain ⟨t207, A400, H⟩ := H
      (try dsimp only at H)
      have A40 := Aside0.mk A400
      clear A400
      replace H := of_ite H
      obtain ⟨c41, H⟩ := H
      have c41b0 := eq_true c41
      have c41b1 := decide_eq_true c41
      clear c41
      replace H := of_ite H
      obtain ⟨c42, H⟩ := H
      have c42b0 := eq_true c42
      have c42b1 := decide_eq_true c42
      clear c42
      obtain ⟨y210, hy210⟩ : ∃ y_ : List Int, y_ = (x11_1.take ((l1.length : Int) : Int).toNat) := ⟨_, rfl⟩
      replace H : ((N1unshift.f k1 y210 (IntKind.u64.wrap (t194))).bind fun t214 => (some (t207, t214))) = some (r1, r2) := by first | (rw [hy210]; with_reducible exact H) | (have H2_ := (Option.bind_some _ _).symm.trans H; rw [hy210]; with_reducible exact H2_) | (have H2_ := (Option.bind_some _ _).symm.trans H; with_reducible exact H2_) | with_reducible exact H | (rw [hy210]; exact H) | exact H
      have Ny210 := Aside0.mk hy210
      clear hy210
      replace H := Option.bind_eq_some_iff.mp H
      obtain ⟨t214, A430, H⟩ := H
      (try dsimp only at H)
      have A43 := Aside0.mk A430
      clear A430
      simp only [Option.some.injEq, Prod.mk.injEq] at H
      obtain ⟨rfl, rfl⟩ := H
      try go_wp2
      have n0_ := Aside0.mk (Kd.R_drew HO_10.out)
      have n1_ := Aside0.mk (Kd.R_drew HO_11.out)
      have n2_ := Aside0.mk (Kd.R_drew HO_12.out)
      have n3_ := Aside0.mk (below_drew1 HB.out)
      revert n0_ n1_ n2_ n3_
      clear HO_10 HO_11 HO_12 HB
      intro HO_10 HO_11 HO_12 HB
      obtain ⟨Ao46, co46, eo46⟩ := Kd.R_slice HO_11.out
      (first | subst eo46 | (injection eo46 with f1_ f2_ f3_; have f4_ := f1_.symm; have f5_ := f3_.symm; clear f1_ f2_ f3_; subst f4_; subst f5_))
      have q45 : ((l1.length : Int) : Int) ≤ ((x11_1.length : Int) : Int) := of_decide_eq_true zq0
      obtain ⟨i045, hi045, _, hsz45, _⟩ := info_parts info86
      have hroom45 : x11_1.length ≤ co46 := (Kd.R_reads' HO_11.out).2.1
      have hC45 : Kd.C (Kd.int .u32) _ Ao46 x11_1.length x11_1 := (Kd.R_reads' HO_11.out).2.2
      have hcut45 := cut_to (P := Tryd.prog) 84 86 .i64 Tryd.underlying84 hi045 Ao46 x11_1.length co46 (l1.length : Int) (of_decide_eq_true zq0) q45 hroom45
      have hr45 := Kd.C_take (m := ((l1.length : Int) : Int).toNat) hC45 (by omega)
      have hy45 : y210.length = ((l1.length : Int) : Int).toNat := (by rw [Ny210.out, List.length_take]; omega)
      rw [← Ny210.out] at hr45
      rw [← hy45] at hcut45
      have HR213 := Aside0.mk hr45
      have HC213 := Aside0.mk (show y210.length ≤ co46 from by omega)
      clear hr45 hC45 hroom45 hi045 hsz45
      have KY45 := Aside0.mk hy45
      clear hy45
      have KL45 := Aside0.mk (show ((l1.length : Int) : Int).toNat ≤ x11_1.length from by omega)
      replace q45 := eq_true q45
      refine start_ (n := 9) (S := fun w' => True) (ds := []) #[false, false, false, false, false, false, false, false, false] (by kernel_rfl) rfl rfl trivial (fun hHeld => ?_); refine with_tabW N1divide.tab15 N1divide.bits15 (fun HT_ HW_ => ?_)
      generalize wr.drew = w44 at HO_10 HO_11 HO_12 HB HR213 hHeld ⊢
      refine pureA 0 79 (lB 9 1) rfl rfl ?_
      refine pureA 2 81 (lB 9 5) rfl rfl ?_
      refine pureA 3 82 (lB 9 13) rfl rfl ?_
      refine pureA 4 83 (lB 9 29) rfl rfl ?_
      refine pureA 5 84 (lB 9 61) rfl rfl ?_
      refine one_ (i := 1) (N := some 80) (lB 9 63) rfl rfl (one_of HT_.out (by kernel_rfl)) (by decide) (fun K hK => ?_)
      refine goes_ Tryd.func86 (by kernel_rfl) rfl #[.slice Ao27 x12_1.length co27] (by rfl) rfl rfl zq2 ?_
      with_reducible refine (N1limbs_trim.calls k1 (fun k_ => some k_ = (.slice Ao27 x12_1.length co27 : Value).ownBlock) _ _ x12_1 t207 _ ?side1 A40.out).mono ?_
      (case side1 => exact Kd.R_V (Kd.R_tight rfl (HO_12.out)))
      rintro e w47 ⟨v208, rfl, ho0, hb⟩
      refine ⟨_, rfl, ?_⟩
      have n0_ := Aside0.mk (Kd.R_below zq7 hb)
      have n1_ := Aside0.mk (Kd.R_below zq24 hb)
      have n2_ := Aside0.mk (Kd.R_below zq40 hb)
      have n3_ := Aside0.mk (Kd.V_lower (Kd.V_mono (ok' := fun k_ => (P0_ k_ ∨ w.heap.size ≤ k_) ∧ some k_ ≠ (v196 : Value).ownBlock ∧ some k_ ≠ (.slice Ao46 x11_1.length co46 : Value).ownBlock) ho0 (fun k_ hk_ => ⟨Or.elim hk_ (fun hs_ => (.inr (((HO_12.out).1 k_ hs_.symm).1))) (fun hn_ => (.inr (Nat.le_trans (below_size zH) hn_))), Or.elim hk_ (fun hs_ => ((HO_12.out).1 k_ hs_.symm).2.1) (fun hn_ => (Kd.fresh' (Kd.R_lt zq7) k_ hn_)), Or.elim hk_ (fun hs_ => ((HO_12.out).1 k_ hs_.symm).2.2) (fun hn_ => (Kd.fresh' (Kd.R_lt zq24) k_ hn_))⟩)) (below_size zH))
      have n4_ := Aside0.mk (Kd.C_below (by repeat (first | (with_reducible exact HR213.out) | (with_reducible refine Kd.C_alloc ?_ _) | (with_reducible refine Kd.C_drewN ?_ _) | (with_reducible refine Kd.C_drew ?_) | exact HR213.out)) hb)
      have n5_ := sB hb
      revert n0_ n1_ n2_ n3_ n4_ n5_
      clear HO_10 HO_11 HO_12 HR213 HB
      intro HO_10 HO_11 HO_12 HO209 HR213 HB
      (try clear hb); (try clear hb2); (try clear hk); (try clear hi); (try clear ho0)
      refine hK.out _ _ trivial (fun hHeld => ?_)
      clear hK K
      refine normA (N := 80) ?_
      refine one_ (i := 6) (N := some 85) (lB 9 127) rfl rfl (one_of HT_.out (by kernel_rfl)) (by decide) (fun K hK => ?_)
      refine goes_ Tryd.func101 (by kernel_rfl) rfl #[.slice Ao46 y210.length co46, .int .u64 (IntKind.u64.wrap (t194))] (by rfl) rfl rfl zq2 ?_
      with_reducible refine (N1unshift.calls k1 _ _ y210 (IntKind.u64.wrap (t194)) t214 _ ?side1 ?side2 A43.out).mono ?_
      (case side1 => repeat (first | exact (by repeat (first | (with_reducible exact HR213.out) | (with_reducible refine Kd.C_alloc ?_ _) | (with_reducible refine Kd.C_drewN ?_ _) | (with_reducible refine Kd.C_drew ?_) | exact HR213.out)) | (with_reducible refine Kd.C_alloc ?_ _) | (with_reducible refine Kd.C_drewN ?_ _) | (with_reducible refine Kd.C_drew ?_)))
      (case side2 => exact HC213.out)
      rintro e w48 ⟨v215, rfl, ho0, hb⟩
      refine ⟨_, rfl, ?_⟩
      have n0_ := Aside0.mk (Kd.R_below zq7 hb)
      have n1_ := Aside0.mk (Kd.R_below zq24 hb)
      have n2_ := Aside0.mk (Kd.R_below zq40 hb)
      have n3_ := Aside0.mk (Kd.V_below (by (with_reducible repeat (first | apply Kd.V_alloc | apply Kd.V_drewN | apply Kd.V_drew)); exact HO209.out) hb)
      have n4_ := Aside0.mk (Kd.V_lower (Kd.V_mono (ok' := fun k_ => (P0_ k_ ∨ w.heap.size ≤ k_) ∧ some k_ ≠ (v196 : Value).ownBlock ∧ some k_ ≠ (.slice Ao46 x11_1.length co46 : Value).ownBlock ∧ some k_ ≠ (.slice Ao27 x12_1.length co27 : Value).ownBlock) ho0 (fun k_ hk_ => ⟨(.inr (Nat.le_trans (below_size zH) hk_)), (Kd.fresh' (Kd.R_lt zq7) k_ hk_), (Kd.fresh' (Kd.R_lt zq24) k_ hk_), (Kd.fresh' (Kd.R_lt zq40) k_ hk_)⟩)) (below_size zH))
      have n5_ := Aside0.mk (Kd.C_below (by repeat (first | (with_reducible exact HR213.out) | (with_reducible refine Kd.C_alloc ?_ _) | (with_reducible refine Kd.C_drewN ?_ _) | (with_reducible refine Kd.C_drew ?_) | exact HR213.out)) hb)
      have n6_ := sB hb
      revert n0_ n1_ n2_ n3_ n4_ n5_ n6_
      clear HO_10 HO_11 HO_12 HO209 HR213 HB
      intro HO_10 HO_11 HO_12 HO209 HO216 HR213 HB
      (try clear hb); (try clear hb2); (try clear hk); (try clear hi); (try clear ho0)
      refine hK.out _ _ trivial (fun hHeld => ?_)
      clear hK K
      refine normA (N := 85) ?_
      refine pureA 7 4 (lB 9 255) rfl rfl ?_
      refine pureA 8 5 (lB 9 511) rfl rfl ?_
      refine done_ (done_of HT_.out (by kernel_rfl)) ?_
      try go_wp2
      go_ret2
      exact ⟨_, _, by first | rfl | (simp [errW_none, errW_some] <;> rfl) | (simp only [← hji14, ← hji20]; first | rfl | (simp [errW_none, errW_some] <;> rfl)) | (simp [*, errW_none, errW_some] <;> rfl), by (with_reducible repeat (first | apply Kd.V_alloc | apply Kd.V_drewN | apply Kd.V_drew)); exact Kd.V_mono HO209.out (fun _ hk => hk.1), by (with_reducible repeat (first | apply Kd.V_alloc | apply Kd.V_drewN | apply Kd.V_drew)); exact Kd.V_mono HO216.out (fun _ hk => hk.1), zH⟩
def N1GCD.l0 : Nat → List Int → List Int → Option (ByteArray)
 | 0, _, _ => none
 | k + 1, x5, x6 => if (x6.length : Int) > 0 then ((N1divide.f k x5 x6).bind fun bt223 => (N1GCD.l0 k x6 bt223.2)) else ((N1limbs_text.f k x5).bind fun t229 => (some t229))
def N1GCD.f (k : Nat) (a0 : ByteArray) (a1 : ByteArray) : Option (ByteArray) := (N1parse.f k a0).bind fun t217 => ((N1parse.f k a1).bind fun t220 => (N1GCD.l0 k t217 t220))
set_option maxHeartbeats 8000000 in
set_option maxRecDepth 100000 in
theorem N1GCD.calls (k : Nat) (a0 : ByteArray) (a1 : ByteArray) (r : ByteArray) (w : World) (h : N1GCD.f k a0 a1 = some r) :
 Calls Tryd.prog 64 #[.string a0, .string a1] w fun e w' => e = .returned (.string r) ∧ Below w.heap.size w w' := by
 have HB := Aside0.mk (Below.refl w.heap.size w)
 have H : ((N1parse.f k a0).bind fun t217 => ((N1parse.f k a1).bind fun t220 => (N1GCD.l0 k t217 t220))) = some r := h
 clear h
 replace H := Option.bind_eq_some_iff.mp H
 obtain ⟨t217, A30, H⟩ := H
 (try dsimp only at H)
 have A3 := Aside0.mk A30
 clear A30
 replace H := Option.bind_eq_some_iff.mp H
 obtain ⟨t220, A40, H⟩ := H
 (try dsimp only at H)
 have A4 := Aside0.mk A40
 clear A40
 have H' := Aside0.mk H
 clear H
 go_enter Tryd.func64, Tryd.ntmps64
 go_wp2_with (first | (refine goesLA 10 Tryd.func66 #[.string a0] ?_; (with_reducible refine (N1parse.calls k a0 t217 _ A3.out).mono ?_); rintro e w5 ⟨v218, rfl, ho0, hb⟩; refine ⟨_, rfl, ?_⟩; have n0_ := Aside0.mk (Kd.V_lower (Kd.V_mono (ok' := fun k_ => True) ho0 (fun k_ hk_ => trivial)) (below_size zH)); have n1_ := sB hb; revert n0_ n1_; clear HB; intro HO219 HB; (try clear hb); (try clear hb2); (try clear hk); (try clear hi); (try clear ho0)) | (refine goesLA 12 Tryd.func66 #[.string a1] ?_; (with_reducible refine (N1parse.calls k a1 t220 _ A4.out).mono ?_); rintro e w6 ⟨v221, rfl, ho0, hb⟩; refine ⟨_, rfl, ?_⟩; have n0_ := Aside0.mk (Kd.V_below (by (with_reducible repeat (first | apply Kd.V_alloc | apply Kd.V_drewN | apply Kd.V_drew)); exact HO219.out) hb); have n1_ := Aside0.mk (Kd.V_lower (Kd.V_mono (ok' := fun k_ => True) ho0 (fun k_ hk_ => trivial)) (below_size zH)); have n2_ := sB hb; revert n0_ n1_ n2_; clear HO219 HB; intro HO219 HO222 HB; (try clear hb); (try clear hb2); (try clear hk); (try clear hi); (try clear ho0)))
 go_loopg [5, 6] k (fun kq v5 v6 w' => ∃ (x5_1 : List Int) (x6_1 : List Int), Aside0 (N1GCD.l0 kq x5_1 x6_1 = some r) ∧ Aside0 (kq ≤ k) ∧ Aside0 (Kd.V (Kd.int .u32) 86 w' w.heap.size (fun _ => True) v5 x5_1) ∧ Aside0 (Kd.V (Kd.int .u32) 86 w' w.heap.size (fun _ => True) v6 x6_1) ∧ Aside0 (Below w.heap.size w w'))
 case atStart => exact ⟨(t217), (t220), H', ⟨Nat.le_refl _⟩, ⟨by (with_reducible repeat (first | apply Kd.V_alloc | apply Kd.V_drewN | apply Kd.V_drew)); exact HO219.out⟩, ⟨by (with_reducible repeat (first | apply Kd.V_alloc | apply Kd.V_drewN | apply Kd.V_drew)); exact HO222.out⟩, ⟨zH⟩⟩
 case round =>
  clear H'
  (try clear p2); (try clear c6)
  obtain ⟨x5_1, x6_1, HA, HK1, HO_5, HO_6, HB⟩ := hrel
  cases gk with
  | zero => exact absurd HA.out (by simp [N1GCD.l0])
  | succ k1 =>
   have H := HA.out
   clear HA
   simp only [N1GCD.l0] at H
   by_cases c7 : (x6_1.length : Int) > 0
   ·rw [if_pos c7] at H
    have c7b0 := decide_eq_true c7
    have c7b1 : decide (0 < x6_1.length) = true := decide_eq_true (by omega)
    clear c7
    replace H := Option.bind_eq_some_iff.mp H
    obtain ⟨⟨t223, t226⟩, A80, H⟩ := H
    (try dsimp only at H)
    have A8 := Aside0.mk A80
    clear A80
    have H' := Aside0.mk H
    clear H
    obtain ⟨Ao9, co9, eo9⟩ := Kd.V_slice HO_6.out
    subst eo9
    obtain ⟨Ao10, co10, eo10⟩ := Kd.V_slice HO_5.out
    subst eo10
    go_wp2_with (first | (refine goesLA 19 Tryd.func85 #[.slice Ao10 x5_1.length co10, .slice Ao9 x6_1.length co9] ?_; (with_reducible refine (N1divide.calls k1 (fun k_ => True) _ _ x5_1 _ _ x6_1 t223 t226 _ ?side1 ?side2 ?side3 A8.out).mono ?_); (case side1 => exact HO_5.out); (case side2 => repeat (first | exact (Kd.V_reads' HO_6.out).2.2 | (with_reducible refine Kd.C_alloc ?_ _) | (with_reducible refine Kd.C_drewN ?_ _) | (with_reducible refine Kd.C_drew ?_))); (case side3 => exact (Kd.V_reads' HO_6.out).2.1); rintro e w11 ⟨v224, v227, rfl, ho0, ho1, hb⟩; refine ⟨_, rfl, ?_⟩; have n0_ := Aside0.mk (Kd.V_below zq15 hb); have n1_ := Aside0.mk (Kd.V_below zq12 hb); have n2_ := Aside0.mk (Kd.V_lower (Kd.V_mono (ok' := fun k_ => True) ho0 (fun k_ hk_ => trivial)) (below_size zH)); have n3_ := Aside0.mk (Kd.V_lower (Kd.V_mono (ok' := fun k_ => True) ho1 (fun k_ hk_ => trivial)) (below_size zH)); have n4_ := sB hb; revert n0_ n1_ n2_ n3_ n4_; clear HO_5 HO_6 HB; intro HO_5 HO_6 HO225 HO228 HB; (try clear hb); (try clear hb2); (try clear hk); (try clear hi); (try clear ho0); (try clear ho1)))
    go_roundg k1
    case measure => have := HK1.out; omega
    case rel => exact ⟨(x6_1), (t226), H', ⟨by have := HK1.out; omega⟩, ⟨by (with_reducible repeat (first | apply Kd.V_alloc | apply Kd.V_drewN | apply Kd.V_drew)); exact HO_6.out⟩, ⟨by (with_reducible repeat (first | apply Kd.V_alloc | apply Kd.V_drewN | apply Kd.V_drew)); exact HO228.out⟩, ⟨zH⟩⟩
   ·rw [if_neg c7] at H
    have c7b0 := decide_eq_false c7
    have c7b1 : decide (0 < x6_1.length) = false := decide_eq_false (by omega)
    clear c7
    replace H := Option.bind_eq_some_iff.mp H
    obtain ⟨t229, A120, H⟩ := H
    (try dsimp only at H)
    have A12 := Aside0.mk A120
    clear A120
    obtain rfl := Option.some.inj H
    obtain ⟨Ao13, co13, eo13⟩ := Kd.V_slice HO_6.out
    subst eo13
    obtain ⟨Ao14, co14, eo14⟩ := Kd.V_slice HO_5.out
    subst eo14
    go_wp2_with (first | (refine goesLA 25 Tryd.func67 #[.slice Ao14 x5_1.length co14] ?_; (with_reducible refine (N1limbs_text.calls k1 _ _ x5_1 t229 _ ?side1 ?side2 A12.out).mono ?_); (case side1 => repeat (first | exact (Kd.V_reads' HO_5.out).2.2 | (with_reducible refine Kd.C_alloc ?_ _) | (with_reducible refine Kd.C_drewN ?_ _) | (with_reducible refine Kd.C_drew ?_))); (case side2 => exact (Kd.V_reads' HO_5.out).2.1); rintro e w15 ⟨rfl, hb⟩; refine ⟨_, rfl, ?_⟩; have n0_ := Aside0.mk (Kd.V_below zq15 hb); have n1_ := Aside0.mk (Kd.V_below zq12 hb); have n2_ := sB hb; revert n0_ n1_ n2_; clear HO_5 HO_6 HB; intro HO_5 HO_6 HB; (try clear hb); (try clear hb2); (try clear hk); (try clear hi)))
    go_ret
    exact ⟨zE, zH⟩
end Go.Proofs.YtggfilmdfpmbmaaDoor.QN
end
