/-
  Steps and laws behind the statement that the claim's last text proves: the words of the walks, the walks of the Go functions (printed by a program of this session's own, then shortened by one), and what they compute. Conditions: stated at each theorem.
-/
import Derived.Test.YtggfilmdfpmbmaaDoorProg
import Derived.Below
import Derived.Deep.Draws
import Derived.Deep.AppendLies
import Derived.Maps.AppendAt
import Derived.OwnWalk
import Derived.Laws.BytesArg
import Derived.Laws.MakeOwn
import Derived.Laws.OwnMore
import Derived.Deep.OwnRows
import Derived.Tactics
import Derived.Lib.ConvBytes
import Derived.Laws.Slices
import Derived.WalkKit
import Derived.KernelRfl
import Derived.RowKit3
import Derived.Deep.LoopGhost
import Derived.Deep.QuietTactic
import Derived.BigQuiet
import Derived.WideLaws
import Derived.Deep.DeepCutAuto
import Derived.Deep.CutBlock
import Derived.Deep.RegionHeld3
import Derived.Laws.Rows
import Derived.Lib.AppendStr
import Derived.ArgAppend
import Derived.Laws.IdiomCopy
import Derived.OrdersHeld
import Derived.Laws.BitsLemmas
import Derived.RowKit
import Derived.Lib.Strings
import Derived.Lib.Slices
import Derived.Lib.Small
import Derived.Lib.Walk
import Derived.Lib.BitFns
import Derived.Lib.Bytealg
import Derived.Test.YtggfilmdfpmbmaaDoorPB
import Derived.Test.YtggfilmdfpmbmaaDoorP0
section
namespace Go.Proofs.YtggfilmdfpmbmaaDoor.QN
open Go.RowKit Go.Proofs.YtggfilmdfpmbmaaDoorW.PrintWords Go.Proofs.YtggfilmdfpmbmaaDoorW.PrintLast Go.Proofs.YtggfilmdfpmbmaaDoorW.PrintMore
attribute [local go_sem] max2_int min2_int max_two min_two max_three min_three max_four min_four   -- for this text's walks alone
set_option linter.unusedVariables false
set_option linter.unusedSimpArgs false
def errW : Option Int → Value
  | none => .nilIface
  | some c => .iface 0 (.int .i64 c)
theorem errW_none : errW none = .nilIface := rfl
theorem errW_some (c : Int) : errW (some c) = .iface 0 (.int .i64 c) := rfl
theorem info5 : (Tryd.prog.info? 5).map (fun i => (i.zero, i.size, i.bytes)) = some (some (.int .u8 0), 1, 1) := by kernel_rfl
theorem info86 : (Tryd.prog.info? 86).map (fun i => (i.zero, i.size, i.bytes)) = some (some (.int .u32 0), 1, 4) := by kernel_rfl
end Go.Proofs.YtggfilmdfpmbmaaDoor.QN
end
section
namespace Go.Proofs.YtggfilmdfpmbmaaDoor.QN
open Go.RowKit Go.Proofs.YtggfilmdfpmbmaaDoorW.PrintWords Go.Proofs.YtggfilmdfpmbmaaDoorW.PrintLast Go.Proofs.YtggfilmdfpmbmaaDoorW.PrintMore
attribute [local go_sem] max2_int min2_int max_two min_two max_three min_three max_four min_four   -- for this text's walks alone
set_option linter.unusedVariables false
set_option linter.unusedSimpArgs false
def T1trimLeftByte.l0 : Nat → ByteArray → Int → Option (ByteArray)
 | 0, _, _ => none
 | k + 1, x0, x1 => if (x0.size : Int) > 0 then (if 0 < (x0.size : Int) then (if (bt x0 0) = x1 then (if 1 ≤ (x0.size : Int) then (T1trimLeftByte.l0 k (x0.extract 1 x0.size) x1) else (none)) else (some x0)) else (none)) else (some x0)
def T1trimLeftByte.f (k : Nat) (a0 : ByteArray) (a1 : Int) : Option (ByteArray) := T1trimLeftByte.l0 k a0 a1
set_option maxHeartbeats 8000000 in
set_option maxRecDepth 100000 in
theorem T1trimLeftByte.calls (k : Nat) (a0 : ByteArray) (a1 : Int) (r : ByteArray) (w : World) (h : T1trimLeftByte.f k a0 a1 = some r) :
 Calls Tryd.prog 93 #[.string a0, .int .u8 a1] w fun e w' => e = .returned (.string r) ∧ Drawn0 w w' := by
 have H : (T1trimLeftByte.l0 k a0 a1) = some r := h
 clear h
 have H' := Aside0.mk H
 clear H
 go_enter Tryd.func93, Tryd.ntmps93
 go_wp2
 go_loopg [0] k (fun kq v0 w' => ∃ (x0_1 : ByteArray), v0 = .string x0_1 ∧ Aside0 (T1trimLeftByte.l0 kq x0_1 a1 = some r) ∧ Aside0 (kq ≤ k) ∧ Drawn0 w w')
 case atStart => exact ⟨(a0), zq1, H', ⟨Nat.le_refl _⟩, by repeat (first | exact Drawn0.refl _ | apply Drawn0.step)⟩
 case round =>
  clear H'
  obtain ⟨x0_1, rfl, HA, HK1, ⟨m1, rfl⟩⟩ := hrel
  cases gk with
  | zero => exact absurd HA.out (by simp [T1trimLeftByte.l0])
  | succ k1 =>
   have H := HA.out
   clear HA
   simp only [T1trimLeftByte.l0] at H
   by_cases c3 : (x0_1.size : Int) > 0
   ·rw [if_pos c3] at H
    have c3b0 := decide_eq_true c3
    have c3b1 : decide (0 < x0_1.size) = true := decide_eq_true (by omega)
    clear c3
    replace H := of_ite H
    obtain ⟨c4, H⟩ := H
    have c4b0 := decide_eq_true c4
    have c4b1 : decide (0 < x0_1.size) = true := decide_eq_true (by omega)
    clear c4
    by_cases c6 : (bt x0_1 0) = a1
    ·rw [if_pos c6] at H
     have c6b0 := beq_iff_eq.mpr c6
     have c6b1 : ((bt x0_1 0) != a1) = false := bne_eq_false_iff_eq.mpr c6
     clear c6
     replace H := iteE H
     obtain ⟨c7b0, c7b1, H⟩ := H
     have H' := Aside0.mk H
     clear H
     have p5 : 0 ≤ (0 : Int) := (by omega)
     have q5 : 0 < x0_1.size := (by have : (0 : Int) < (x0_1.size : Int) := of_decide_eq_true zq0; omega)
     have hx5 : ∀ h : 0 < x0_1.size, ((x0_1[0]'h).toNat : Int) = bt x0_1 0 := bt_at x0_1 0
     clear p5
     have qi5 : (0 < (x0_1.size : Int)) = True := eq_true (of_decide_eq_true zq0)
     replace q5 := eq_true q5
     go_wp2
     go_roundg k1
     case measure => have := HK1.out; omega
     case rel => exact ⟨(x0_1.extract 1 x0_1.size), zq1, H', ⟨by have := HK1.out; omega⟩, by repeat (first | exact Drawn0.refl _ | apply Drawn0.step)⟩
    ·rw [if_neg c6] at H
     have c6b0 := beq_eq_false_iff_ne.mpr c6
     have c6b1 := bne_iff_ne.mpr c6
     obtain rfl := Option.some.inj H
     have p5 : 0 ≤ (0 : Int) := (by omega)
     have q5 : 0 < x0_1.size := (by have : (0 : Int) < (x0_1.size : Int) := of_decide_eq_true zq0; omega)
     have hx5 : ∀ h : 0 < x0_1.size, ((x0_1[0]'h).toNat : Int) = bt x0_1 0 := bt_at x0_1 0
     clear p5
     have qi5 : (0 < (x0_1.size : Int)) = True := eq_true (of_decide_eq_true zq0)
     replace q5 := eq_true q5
     go_wp2
     go_ret
     exact ⟨by first | rfl | (simp; done) | (simp [*]; done), by repeat (first | exact Drawn0.refl _ | apply Drawn0.step)⟩
   ·rw [if_neg c3] at H
    have c3b0 := decide_eq_false c3
    have c3b1 : decide (0 < x0_1.size) = false := decide_eq_false (by omega)
    clear c3
    obtain rfl := Option.some.inj H
    go_wp2
    go_ret
    exact ⟨by first | rfl | (simp; done) | (simp [*]; done), by repeat (first | exact Drawn0.refl _ | apply Drawn0.step)⟩
def T1TrimLeft.f (k : Nat) (a0 : ByteArray) (a1 : ByteArray) : Option (ByteArray) := if a1 = (⟨#[0]⟩ : ByteArray) then (T1trimLeftByte.f k a0 0) else (none)
set_option maxHeartbeats 4000000 in
set_option maxRecDepth 100000 in
theorem T1TrimLeft.calls (k : Nat) (a0 : ByteArray) (a1 : ByteArray) (r : ByteArray) (w : World) (h : T1TrimLeft.f k a0 a1 = some r) :
 Calls Tryd.prog 84 #[.string a0, .string a1] w fun e w' => e = .returned (.string r) ∧ Drawn0 w w' := by
 unfold T1TrimLeft.f at h
 split at h
 ·rename_i h1
  subst h1
  have h' := Aside0.mk h
  clear h
  by_cases h2 : a0.toList = []
  ·have e : a0.toList.isEmpty = true := by rw [h2]; rfl
   have e3 : (!a0.toList.isEmpty) = false := by rw [h2]; rfl
   have h5 := h'.out
   have z0 : a0.size = 0 := by
    rw [ByteArray.toList_eq] at h2
    have := congrArg List.length h2
    rw [Array.length_toList] at this
    exact this
   have hr : a0 = r := by
    cases k with
    | zero => simp [T1trimLeftByte.f, T1trimLeftByte.l0] at h5
    | succ k =>
     simp only [T1trimLeftByte.f, T1trimLeftByte.l0] at h5
     rw [if_neg (by omega)] at h5
     exact Option.some.inj h5
   subst hr
   clear h5 z0 h'
   go_enter Tryd.func84, Tryd.ntmps84
   go_wp2
   go_ret
   exact ⟨rfl, Drawn0.refl _⟩
  ·have e : a0.toList.isEmpty = false := by cases hh : a0.toList with | nil => exact absurd hh h2 | cons _ _ => rfl
   have e3 : (!a0.toList.isEmpty) = true := by rw [e]; rfl
   go_enter Tryd.func84, Tryd.ntmps84
   go_wp2_with (go_at_call 93; refine (T1trimLeftByte.calls k a0 0 r _ h'.out).mono ?_; rintro e w' ⟨rfl, ⟨m1, rfl⟩⟩)
   go_ret
   exact ⟨rfl, by repeat (first | exact Drawn0.refl _ | apply Drawn0.step)⟩
 ·cases h
def N1Normalize.f (k : Nat) (a0 : ByteArray) : Option (ByteArray) := (T1TrimLeft.f k a0 (⟨#[0]⟩ : ByteArray)).bind fun t101 => (some t101)
set_option maxHeartbeats 8000000 in
set_option maxRecDepth 100000 in
theorem N1Normalize.calls (k : Nat) (a0 : ByteArray) (r : ByteArray) (w : World) (h : N1Normalize.f k a0 = some r) :
 Calls Tryd.prog 63 #[.string a0] w fun e w' => e = .returned (.string r) ∧ Drawn0 w w' := by
 have H : ((T1TrimLeft.f k a0 (⟨#[0]⟩ : ByteArray)).bind fun t101 => (some t101)) = some r := h
 clear h
 replace H := bS H
 obtain ⟨t101, A2, H⟩ := H
 obtain rfl := Option.some.inj H
 go_enter Tryd.func63, Tryd.ntmps63
 go_wp2_with (first | (refine goesLA 4 Tryd.func84 #[.string a0, .string (⟨#[0]⟩ : ByteArray)] ?_; (with_reducible refine (T1TrimLeft.calls k a0 (⟨#[0]⟩ : ByteArray) t101 _ A2.out).mono ?_); rintro e w' ⟨rfl, ⟨nd, rfl⟩⟩; refine ⟨_, rfl, ?_⟩))
 go_ret
 exact ⟨by first | rfl | (simp; done) | (simp [*]; done), by repeat (first | exact Drawn0.refl _ | apply Drawn0.step)⟩
def N1limbs_trim.l0 : Nat → List Int → Int → Option (List Int)
 | 0, _, _ => none
 | k + 1, x0, x3 => if x3 > 0 then (if 0 ≤ (wrap64 (x3 - 1)) then (if (wrap64 (x3 - 1)) < (x0.length : Int) then (if (rd x0 (wrap64 (x3 - 1))) = 0 then (N1limbs_trim.l0 k x0 (wrap64 (x3 - 1))) else (if 0 ≤ x3 then (if x3 ≤ (x0.length : Int) then (some (x0.take (x3 : Int).toNat)) else (none)) else (none))) else (none)) else (none)) else (if 0 ≤ x3 then (if x3 ≤ (x0.length : Int) then (some (x0.take (x3 : Int).toNat)) else (none)) else (none))
def N1limbs_trim.f (k : Nat) (l0 : List Int) : Option (List Int) := N1limbs_trim.l0 k l0 (l0.length : Int)
set_option maxHeartbeats 8000000 in
set_option maxRecDepth 100000 in
theorem N1limbs_trim.calls (k : Nat) (P0_ : Nat → Prop) (A0 : Option Addr) (c0 : Nat) (l0 : List Int) (r : List Int) (w : World) (hs0 : Kd.V (Kd.int .u32) 86 w w.heap.size (fun k_ => P0_ k_) (.slice A0 l0.length c0) l0) (h : N1limbs_trim.f k l0 = some r) :
 Calls Tryd.prog 86 #[.slice A0 l0.length c0] w fun e w' => ∃ v0_ : Value, e = .returned (v0_) ∧ Kd.V (Kd.int .u32) 86 w' w.heap.size (fun k_ => (P0_ k_ ∨ w.heap.size ≤ k_)) v0_ r ∧ Below w.heap.size w w' := by
 have HO0 := Aside0.mk (show Kd.V (Kd.int .u32) 86 w w.heap.size (fun k_ => (P0_ k_ ∨ w.heap.size ≤ k_)) (.slice A0 l0.length c0) l0 from Kd.V_mono hs0 (fun k_ hk => .inl hk))
 have HB := Aside0.mk (Below.refl w.heap.size w)
 have H : (N1limbs_trim.l0 k l0 (l0.length : Int)) = some r := h
 clear h
 have H' := Aside0.mk H
 clear H
 go_enter Tryd.func86, Tryd.ntmps86
 go_wp2
 go_loopg [3] k (fun kq v3 w' => ∃ (x3_1 : Int), v3 = .int .i64 x3_1 ∧ Aside0 (N1limbs_trim.l0 kq l0 x3_1 = some r) ∧ Aside0 (kq ≤ k) ∧ Aside0 (Kd.V (Kd.int .u32) 86 w' w.heap.size (fun k_ => (P0_ k_ ∨ w.heap.size ≤ k_)) (.slice A0 l0.length c0) l0) ∧ Aside0 (Below w.heap.size w w'))
 case atStart => exact ⟨((l0.length : Int)), zq1, H', ⟨Nat.le_refl _⟩, ⟨by (with_reducible repeat (first | apply Kd.V_alloc | apply Kd.V_drewN | apply Kd.V_drew)); exact HO0.out⟩, ⟨zH⟩⟩
 case round =>
  clear H'
  obtain ⟨x3_1, rfl, HA, HK1, HO_0, HB⟩ := hrel
  cases gk with
  | zero => exact absurd HA.out (by simp [N1limbs_trim.l0])
  | succ k1 =>
   have H := HA.out
   clear HA
   simp only [N1limbs_trim.l0] at H
   by_cases c2 : x3_1 > 0
   ·rw [if_pos c2] at H
    have c2b0 := decide_eq_true c2
    clear c2
    obtain ⟨ji3, hji3, hji3w⟩ := jI (x3_1 - 1)
    first | rw [hji3] at H | simp only [hji3] at H
    replace H := iteD H
    obtain ⟨c4b0, H⟩ := H
    replace H := iteD H
    obtain ⟨c5b0, H⟩ := H
    by_cases c6 : (rd l0 (ji3)) = 0
    ·rw [if_pos c6] at H
     have c6b0 := beq_iff_eq.mpr c6
     have c6b1 : ((rd l0 (ji3)) != 0) = false := bne_eq_false_iff_eq.mpr c6
     clear c6
     have H' := Aside0.mk H
     clear H
     obtain ⟨ad102, e102, hx102_0, p102, q102⟩ := atI (Kd.V_reads' HO_0.out).2.2 (ji3)
     cases e102
     go_wp2
     go_roundg k1
     case measure => have := HK1.out; omega
     case rel => exact ⟨(ji3), (by first | rfl | (simp; done) | (simp only [← hji3] <;> (first | rfl | simp)) | (simp [*]; done)), H', ⟨by have := HK1.out; omega⟩, ⟨by (with_reducible repeat (first | apply Kd.V_alloc | apply Kd.V_drewN | apply Kd.V_drew)); exact HO_0.out⟩, ⟨zH⟩⟩
    ·rw [if_neg c6] at H
     have c6b0 := beq_eq_false_iff_ne.mpr c6
     have c6b1 := bne_iff_ne.mpr c6
     replace H := iteE H
     obtain ⟨c7b0, c7b1, H⟩ := H
     replace H := iteE H
     obtain ⟨c8b0, c8b1, H⟩ := H
     obtain ⟨y103, hy103⟩ : ∃ y_ : List Int, y_ = (l0.take (x3_1 : Int).toNat) := ⟨_, rfl⟩
     (try rw [Option.bind_some] at H); (try rw [← hy103] at H)
     have Ny103 := Aside0.mk hy103
     clear hy103
     obtain rfl := Option.some.inj H
     obtain ⟨ad102, e102, hx102_0, p102, q102⟩ := atI (Kd.V_reads' HO_0.out).2.2 (ji3)
     cases e102
     have q9 : (x3_1 : Int) ≤ ((l0.length : Int) : Int) := of_decide_eq_true zq0
     obtain ⟨i09, hi09, _, hsz9, _⟩ := info_parts info86
     have hroom9 : l0.length ≤ c0 := (Kd.V_reads' HO_0.out).2.1
     have hC9 : Kd.F (Kd.int .u32) _ _ (some ad102) l0.length l0 := (Kd.V_at (base := w.heap.size) HO_0.out).2.2
     have hcut9 := cut_to (P := Tryd.prog) 84 86 .i64 Tryd.underlying84 hi09 (some ad102) l0.length c0 x3_1 (of_decide_eq_true zq0) q9 hroom9
     have hr9 := Kd.F_take (m := (x3_1 : Int).toNat) hC9 (by omega)
     have hy9 : y103.length = (x3_1 : Int).toNat := (by rw [Ny103.out, List.length_take]; omega)
     rw [← Ny103.out] at hr9
     rw [← hy9] at hcut9
     have HO107 := Aside0.mk (show Kd.V (Kd.int .u32) 86 _ w.heap.size _ (.slice (some ad102) y103.length c0) y103 from Kd.V_mk (by omega) hr9)
     have HC107 := Aside0.mk (show y103.length ≤ c0 from by omega)
     clear hr9 hC9 hroom9 hi09 hsz9
     have KY9 := Aside0.mk hy9
     clear hy9
     replace q9 := eq_true q9
     go_wp2
     go_ret
     exact ⟨_, by first | rfl | (simp [errW_none, errW_some] <;> rfl) | (simp only [← hji3]; first | rfl | (simp [errW_none, errW_some] <;> rfl)) | (simp [*, errW_none, errW_some] <;> rfl), by (with_reducible repeat (first | apply Kd.V_alloc | apply Kd.V_drewN | apply Kd.V_drew)); exact HO107.out, zH⟩
   ·rw [if_neg c2] at H
    have c2b0 := decide_eq_false c2
    clear c2
    replace H := iteE H
    obtain ⟨c10b0, c10b1, H⟩ := H
    replace H := iteE H
    obtain ⟨c11b0, c11b1, H⟩ := H
    obtain ⟨y108, hy108⟩ : ∃ y_ : List Int, y_ = (l0.take (x3_1 : Int).toNat) := ⟨_, rfl⟩
    (try rw [Option.bind_some] at H); (try rw [← hy108] at H)
    have Ny108 := Aside0.mk hy108
    clear hy108
    obtain rfl := Option.some.inj H
    have q12 : (x3_1 : Int) ≤ ((l0.length : Int) : Int) := of_decide_eq_true zq0
    obtain ⟨i012, hi012, _, hsz12, _⟩ := info_parts info86
    have hroom12 : l0.length ≤ c0 := (Kd.V_reads' HO_0.out).2.1
    have hC12 : Kd.F (Kd.int .u32) _ _ A0 l0.length l0 := (Kd.V_at (base := w.heap.size) HO_0.out).2.2
    have hcut12 := cut_to (P := Tryd.prog) 84 86 .i64 Tryd.underlying84 hi012 A0 l0.length c0 x3_1 (of_decide_eq_true zq0) q12 hroom12
    have hr12 := Kd.F_take (m := (x3_1 : Int).toNat) hC12 (by omega)
    have hy12 : y108.length = (x3_1 : Int).toNat := (by rw [Ny108.out, List.length_take]; omega)
    rw [← Ny108.out] at hr12
    rw [← hy12] at hcut12
    have HO112 := Aside0.mk (show Kd.V (Kd.int .u32) 86 _ w.heap.size _ (.slice A0 y108.length c0) y108 from Kd.V_mk (by omega) hr12)
    have HC112 := Aside0.mk (show y108.length ≤ c0 from by omega)
    clear hr12 hC12 hroom12 hi012 hsz12
    have KY12 := Aside0.mk hy12
    clear hy12
    replace q12 := eq_true q12
    go_wp2
    go_ret
    exact ⟨_, zE, by (with_reducible repeat (first | apply Kd.V_alloc | apply Kd.V_drewN | apply Kd.V_drew)); exact HO112.out, zH⟩
def N1parse.l0 : Nat → ByteArray → List Int → Int → Int → Option (List Int)
 | 0, _, _, _, _ => none
 | k + 1, x0, x3, x12, x13 => if x13 < x12 then (if 0 ≤ (wrap64 (Int.tdiv x13 4)) then (if (wrap64 (Int.tdiv x13 4)) < (x3.length : Int) then (if 0 ≤ (wrap64 ((wrap64 ((x0.size : Int) - 1)) - x13)) then (if (wrap64 ((wrap64 ((x0.size : Int) - 1)) - x13)) < (x0.size : Int) then (if 0 ≤ (wrap64 (8 * (Int.tmod x13 4))) then (if (wrap64 (8 * (Int.tmod x13 4))) ≤ 32 then (N1parse.l0 k x0 (x3.set ((wrap64 (Int.tdiv x13 4)) : Int).toNat (Go.bits .or .u32 (rd x3 (wrap64 (Int.tdiv x13 4))) ((((bt x0 (wrap64 ((wrap64 ((x0.size : Int) - 1)) - x13))) % 4294967296) * 2 ^ (wrap64 (8 * (Int.tmod x13 4))).toNat) % 4294967296))) x12 (wrap64 (x13 + 1))) else (none)) else (none)) else (none)) else (none)) else (none)) else (none)) else ((N1limbs_trim.f k x3).bind fun t118 => (some t118))
def N1parse.f (k : Nat) (a0 : ByteArray) : Option (List Int) := if 0 ≤ (wrap64 (Int.tdiv (wrap64 ((wrap64 ((a0.size : Int) + 4)) - 1)) 4)) then (if (wrap64 (Int.tdiv (wrap64 ((wrap64 ((a0.size : Int) + 4)) - 1)) 4) : Int).toNat ≤ 70368744177664 then (N1parse.l0 k a0 (List.replicate (wrap64 (Int.tdiv (wrap64 ((wrap64 ((a0.size : Int) + 4)) - 1)) 4) : Int).toNat 0) (a0.size : Int) 0) else (none)) else (none)
def N1parse.T5 : Bool × List (List Nat × List Nat) := (true, [([], []), ([], []), ([1], [1]), ([0, 2], [0, 2]), ([3], [3]), ([], []), ([], []), ([6], [6]), ([7], [7]), ([], []), ([8, 9], [8, 9]), ([5, 10], [5, 10]), ([11], [11]), ([], []), ([13], [13]), ([14], [14]), ([12, 15], [12, 15]), ([4, 16], [4, 16]), ([0, 2, 0, 1, 2, 3, 4, 5, 6, 7, 8, 9, 10, 11, 12, 13, 14, 15, 16, 17], [0, 2]), ([18, 17, 0, 1, 2, 3, 4, 5, 6, 7, 8, 9, 10, 11, 12, 13, 14, 15, 16, 17], [17, 18])])
def N1parse.B5 : List Nat := [0, 0, 2, 7, 15, 0, 0, 64, 192, 0, 960, 2016, 4064, 0, 8192, 24576, 65504, 131071, 262143, 524287]
theorem N1parse.tab5 : rtab .any (opsOf Tryd.f66 5) = N1parse.T5 := by kernel_rfl
theorem N1parse.bits5 : waitsOk N1parse.T5.2 N1parse.B5 = true := by kernel_rfl
set_option maxHeartbeats 8000000 in
set_option maxRecDepth 100000 in
theorem N1parse.calls (k : Nat) (a0 : ByteArray) (r : List Int) (w : World) (h : N1parse.f k a0 = some r) :
 Calls Tryd.prog 66 #[.string a0] w fun e w' => ∃ v0_ : Value, e = .returned (v0_) ∧ Kd.V (Kd.int .u32) 86 w' w.heap.size (fun k_ => (w.heap.size ≤ k_)) v0_ r ∧ Below w.heap.size w w' := by
 have HB := Aside0.mk (Below.refl w.heap.size w)
 have H : (if 0 ≤ (wrap64 (Int.tdiv (wrap64 ((wrap64 ((a0.size : Int) + 4)) - 1)) 4)) then (if (wrap64 (Int.tdiv (wrap64 ((wrap64 ((a0.size : Int) + 4)) - 1)) 4) : Int).toNat ≤ 70368744177664 then (N1parse.l0 k a0 (List.replicate (wrap64 (Int.tdiv (wrap64 ((wrap64 ((a0.size : Int) + 4)) - 1)) 4) : Int).toNat 0) (a0.size : Int) 0) else (none)) else (none)) = some r := h
 clear h
 obtain ⟨ji2, hji2, hji2w⟩ := jI (Int.tdiv (wrap64 ((wrap64 ((a0.size : Int) + 4)) - 1)) 4)
 first | rw [hji2] at H | simp only [hji2] at H
 replace H := iteE H
 obtain ⟨c3b0, c3b1, H⟩ := H
 replace H := iteE H
 obtain ⟨c4b0, c4b1, H⟩ := H
 obtain ⟨y113, hy113⟩ : ∃ y_ : List Int, y_ = (List.replicate (ji2 : Int).toNat 0) := ⟨_, rfl⟩
 (try rw [Option.bind_some] at H); (try rw [← hy113] at H)
 have Ny113 := Aside0.mk hy113
 clear hy113
 have H' := Aside0.mk H
 clear H
 go_enter Tryd.func66, Tryd.ntmps66
 go_wp2_with (first | ((with_reducible refine gate_dst (N := 10) rfl ?_); refine Kd.R_make (Kd.int .u32) _ 86 rfl (N := 10) rfl 84 _ _ rfl ji2 rfl rfl Tryd.underlying84 (.int .u32 0) 4 info86 rfl (by decide) (by omega) 0 (ok := fun _ => True) (okp := fun _ => True) rfl (fun _ hk => hk) trivial (of_decide_eq_true zq0) (Nat.le_trans (Nat.mul_le_mul_right _ (of_decide_eq_true zq0 : ji2.toNat ≤ 70368744177664)) (by omega)) (Below.refl _ _) (Nat.le_refl _) ?_; intro v114 w5 ho6 hb hg_ hnew_; clear hg_ hnew_; (first | rw [← Ny113.out] at ho6 | (simp only [Int.reduceToNat] at ho6; rw [← Ny113.out] at ho6)); have n0_ := Aside0.mk (Kd.R_lower (Kd.R_newM (M := fun k_ => (w.heap.size ≤ k_)) ho6 (below_size zH) (fun k_ h_ => h_)) (below_size zH)); have n1_ := sB hb; revert n0_ n1_; clear HB; intro HO115 HB; clear hb ho6))
 go_loopg [13] k (fun kq v13 w' => ∃ (x3_1 : List Int) (x13_1 : Int), v13 = .int .i64 x13_1 ∧ Aside0 (N1parse.l0 kq a0 x3_1 (a0.size : Int) x13_1 = some r) ∧ Aside0 (kq ≤ k) ∧ Aside0 (Kd.R (Kd.int .u32) 86 w' w.heap.size (fun k_ => (w.heap.size ≤ k_)) v114 x3_1) ∧ Aside0 (Below w.heap.size w w'))
 case atStart => exact ⟨(y113), (0), zq1, H', ⟨Nat.le_refl _⟩, ⟨by (with_reducible repeat (first | apply Kd.R_alloc | apply Kd.R_drewN | apply Kd.R_drew)); exact Kd.R_mono HO115.out (fun _ hk => hk.1)⟩, ⟨zH⟩⟩
 case round =>
  clear H'
  obtain ⟨x3_1, x13_1, rfl, HA, HK1, HO_3, HB⟩ := hrel
  cases gk with
  | zero => exact absurd HA.out (by simp [N1parse.l0])
  | succ k1 =>
   have H := HA.out
   clear HA
   simp only [N1parse.l0] at H
   by_cases c7 : x13_1 < (a0.size : Int)
   ·rw [if_pos c7] at H
    have c7b0 := decide_eq_true c7
    clear c7
    obtain ⟨ji8, hji8, hji8w⟩ := jI (Int.tdiv x13_1 4)
    first | rw [hji8] at H | simp only [hji8] at H
    replace H := iteD H
    obtain ⟨c9b0, H⟩ := H
    replace H := iteD H
    obtain ⟨c10b0, H⟩ := H
    obtain ⟨ji11, hji11, hji11w⟩ := jI ((wrap64 ((a0.size : Int) - 1)) - x13_1)
    first | rw [hji11] at H | simp only [hji11] at H
    replace H := iteD H
    obtain ⟨c12b0, H⟩ := H
    replace H := iteD H
    obtain ⟨c13b0, H⟩ := H
    obtain ⟨ji15, hji15, hji15w⟩ := jI (8 * (Int.tmod x13_1 4))
    first | rw [hji15] at H | simp only [hji15] at H
    replace H := iteE H
    obtain ⟨c16b0, c16b1, H⟩ := H
    replace H := iteE H
    obtain ⟨c17b0, c17b1, H⟩ := H
    obtain ⟨y117, hy117⟩ : ∃ y_ : List Int, y_ = (x3_1.set ((ji8) : Int).toNat (Go.bits .or .u32 (rd x3_1 (ji8)) ((((bt a0 (ji11)) % 4294967296) * 2 ^ (ji15).toNat) % 4294967296))) := ⟨_, rfl⟩
    (try rw [Option.bind_some] at H); (try rw [← hy117] at H)
    have Ny117 := Aside0.mk hy117
    clear hy117
    have H' := Aside0.mk H
    clear H
    try go_wp2
    have n0_ := Aside0.mk (Kd.R_drew HO_3.out)
    have n1_ := Aside0.mk (below_drew1 HB.out)
    revert n0_ n1_
    clear HO_3 HB
    intro HO_3 HB
    obtain ⟨Ao20, co20, eo20⟩ := Kd.R_slice HO_3.out
    (first | subst eo20 | (injection eo20 with f1_ f2_ f3_; have f4_ := f1_.symm; have f5_ := f3_.symm; clear f1_ f2_ f3_; subst f4_; subst f5_))
    obtain ⟨ad116, e116, hx116_0, p116, q116⟩ := atI (Kd.R_reads' HO_3.out).2.2 (ji8)
    cases e116
    have p14 : 0 ≤ ((ji11) : Int) := of_decide_eq_true zq0
    have q14 : (ji11) < (a0.size : Int) := of_decide_eq_true zq0
    have hx14 := bt_at a0 (ji11)
    replace p14 := eq_true p14
    replace q14 := eq_true q14
    have p18 : 0 ≤ ((ji8) : Int) := of_decide_eq_true zq0
    have q18 : ((ji8) : Int) < ((x3_1.length : Int) : Int) := of_decide_eq_true zq0
    obtain ⟨go18, co18, eo18, gb18, gl18, cl18, HG18⟩ := Kd.R_form HO_3.out (by omega)
    (first | cases eo18 | (injection eo18 with ea_ en_ ec_; (first | subst ea_ | (injection ea_ with ea_; subst ea_)); subst ec_; clear en_))
    have GB18 := Aside0.mk gb18
    have GG18 := Aside0.mk HG18
    clear gb18 gl18 HG18
    (first | simp only [add_plain] at hx116_0 | skip)
    obtain ⟨hx18_0, hf18_0⟩ := Kd.R_celln 0 HO_3.out ((ji8) : Int) p18 q18
    (try simp only [Go.IntWalk.toNatUp] at hx18_0 hf18_0)
    replace p18 := eq_true p18
    replace q18 := eq_true q18
    have HP21 := Kd.R_putn HO_3.out ((ji8) : Int) (Go.bits .or .u32 (rd x3_1 (ji8)) ((((bt a0 (ji11)) % 4294967296) * 2 ^ (ji15).toNat) % 4294967296))
    rw [← Ny117.out] at HP21
    have HQ21 := Aside0.mk HP21
    clear HP21
    refine start_ (n := 20) (S := fun w' => w'.cell? ⟨go18, ((ji8)).toNat, none⟩ = some (.int .u32 (rd x3_1 (ji8)))) (ds := [19]) #[false, false, false, false, false, false, false, false, false, false, false, false, false, false, false, false, false, false, false, false] (by kernel_rfl) rfl rfl (hx116_0) (fun hHeld => ?_); refine with_tabW N1parse.tab5 N1parse.bits5 (fun HT_ HW_ => ?_)
    generalize wr.drew = w19 at HO_3 HB GG18 HQ21 hf18_0 hx116_0 hx18_0 hHeld ⊢
    refine pureA 0 16 (lB 20 1) rfl rfl ?_
    refine pureA 1 17 (lB 20 3) rfl rfl ?_
    refine pureA 2 18 (lB 20 7) rfl rfl ?_
    refine pureA 3 19 (lB 20 15) rfl rfl ?_
    refine pureA 5 21 (lB 20 47) rfl rfl ?_
    refine pureA 6 22 (lB 20 111) rfl rfl ?_
    refine pureA 7 23 (lB 20 239) rfl rfl ?_
    refine pureA 8 24 (lB 20 495) rfl rfl ?_
    refine pureA 9 25 (lB 20 1007) rfl rfl ?_
    refine pureA 10 26 (lB 20 2031) rfl rfl ?_
    refine pureA 13 29 (lB 20 10223) rfl rfl ?_
    refine pureA 14 30 (lB 20 26607) rfl rfl ?_
    refine pureA 15 31 (lB 20 59375) rfl rfl ?_
    refine take_ (i := 4) (N := some 20) (v := ?_) (a' := ?_) #[true, true, true, true, true, true, true, true, true, true, true, false, false, true, true, true, false, false, false, false] rfl rfl (take_ofW HT_.out HW_.out (by kernel_rfl)) (fun _ _ _ h => h) (Or.inl ⟨by rfl, ?_⟩) hHeld ?_ ?_
    rotate_left
    ·intro w' s0
     go_simp
     with_reducible rfl
    rotate_left
    ·simp only [Act.put, List.setIfInBounds_toArray, List.set_cons_zero, List.set_cons_succ, i64_w, i32_w]
     rfl
    refine take_ (i := 11) (N := some 27) (v := ?_) (a' := ?_) #[true, true, true, true, true, true, true, true, true, true, true, true, false, true, true, true, false, false, false, false] rfl rfl (take_ofW HT_.out HW_.out (by kernel_rfl)) (fun _ _ _ h => h) (Or.inl ⟨by rfl, ?_⟩) hHeld ?_ ?_
    rotate_left
    ·intro w' s0
     go_simp
     with_reducible rfl
    rotate_left
    ·simp only [Act.put, List.setIfInBounds_toArray, List.set_cons_zero, List.set_cons_succ, i64_w, i32_w]
     rfl
    refine pureA 12 28 (lB 20 65535) rfl rfl ?_
    refine pureA 16 32 (lB 20 131071) rfl rfl ?_
    refine pureA 17 33 (lB 20 262143) rfl rfl ?_
    refine pureA 18 34 (lB 20 524287) rfl rfl ?_
    refine last_ (i := 19) (N := none) (lB 20 1048575) rfl rfl (one_of HT_.out (by kernel_rfl)) (by decide) (fun K hK => ?_)
    refine skip_ (w1 := ?_) (by rfl) rfl ?_ ?_
    rotate_left
    ·go_simp
     rfl
    refine hK.out _ _ ?_
    clear hK K
    refine done_ (done_of HT_.out (by kernel_rfl)) ?_
    try go_wp2
    go_roundg k1
    case measure => have := HK1.out; omega
    case rel => exact ⟨(y117), (wrap64 (x13_1 + 1)), zq1, H', ⟨by have := HK1.out; omega⟩, ⟨by (with_reducible repeat (first | apply Kd.R_alloc | apply Kd.R_drewN | apply Kd.R_drew)); exact HQ21.out⟩, ⟨zH⟩⟩
   ·rw [if_neg c7] at H
    have c7b0 := decide_eq_false c7
    clear c7
    replace H := bS H
    obtain ⟨t118, A22, H⟩ := H
    obtain rfl := Option.some.inj H
    obtain ⟨Ao23, co23, eo23⟩ := Kd.R_slice HO_3.out
    subst eo23
    go_wp2_with (first | (refine goesLA 37 Tryd.func86 #[.slice Ao23 x3_1.length co23] ?_; (with_reducible refine (N1limbs_trim.calls k1 (fun k_ => some k_ = (.slice Ao23 x3_1.length co23 : Value).ownBlock) _ _ x3_1 t118 _ ?side1 A22.out).mono ?_); (case side1 => exact Kd.R_V (Kd.R_tight rfl (HO_3.out))); rintro e w24 ⟨v119, rfl, ho0, hb⟩; refine ⟨_, rfl, ?_⟩; have n0_ := Aside0.mk (Kd.R_below zq39 hb); have n1_ := Aside0.mk (Kd.V_lower (Kd.V_mono (ok' := fun k_ => (w.heap.size ≤ k_)) ho0 (fun k_ hk_ => Or.elim hk_ (fun hs_ => ((HO_3.out).1 k_ hs_.symm)) (fun hn_ => (Nat.le_trans (below_size zH) hn_)))) (below_size zH)); have n2_ := sB hb; revert n0_ n1_ n2_; clear HO_3 HB; intro HO_3 HO120 HB; (try clear hb); (try clear hb2); (try clear hk); (try clear hi); (try clear ho0)))
    go_ret
    exact ⟨_, by first | rfl | (simp [errW_none, errW_some] <;> rfl) | (simp only [← hji2]; first | rfl | (simp [errW_none, errW_some] <;> rfl)) | (simp [*, errW_none, errW_some] <;> rfl), by (with_reducible repeat (first | apply Kd.V_alloc | apply Kd.V_drewN | apply Kd.V_drew)); exact HO120.out, zH⟩
end Go.Proofs.YtggfilmdfpmbmaaDoor.QN
end
section
namespace Go.Proofs.YtggfilmdfpmbmaaDoor.QN
open Go.RowKit Go.Proofs.YtggfilmdfpmbmaaDoorW.PrintWords Go.Proofs.YtggfilmdfpmbmaaDoorW.PrintLast Go.Proofs.YtggfilmdfpmbmaaDoorW.PrintMore
attribute [local go_sem] max2_int min2_int max_two min_two max_three min_three max_four min_four   -- for this text's walks alone
set_option linter.unusedVariables false
set_option linter.unusedSimpArgs false
def N1limbs_text.l0 : Nat → List Int → List Int → Int → Int → Option (ByteArray)
 | 0, _, _, _, _ => none
 | k + 1, x0, x3, x10, x11 => if x11 < x10 then (if 0 ≤ (wrap64 (Int.tdiv x11 4)) then (if (wrap64 (Int.tdiv x11 4)) < (x0.length : Int) then (if 0 ≤ (wrap64 (8 * (Int.tmod x11 4))) then (if (wrap64 (8 * (Int.tmod x11 4))) ≤ 32 then (if 0 ≤ (wrap64 ((wrap64 ((x3.length : Int) - 1)) - x11)) then (if (wrap64 ((wrap64 ((x3.length : Int) - 1)) - x11)) < (x3.length : Int) then (N1limbs_text.l0 k x0 (x3.set ((wrap64 ((wrap64 ((x3.length : Int) - 1)) - x11)) : Int).toNat (((rd x0 (wrap64 (Int.tdiv x11 4))) / 2 ^ (wrap64 (8 * (Int.tmod x11 4))).toNat) % 256)) x10 (wrap64 (x11 + 1))) else (none)) else (none)) else (none)) else (none)) else (none)) else (none)) else ((N1Normalize.f k (strOfNums x3)).bind fun t126 => (some t126))
def N1limbs_text.f (k : Nat) (l0 : List Int) : Option (ByteArray) := if 0 ≤ (wrap64 ((l0.length : Int) * 4)) then (if (wrap64 ((l0.length : Int) * 4) : Int).toNat ≤ 281474976710656 then ((some (List.replicate (wrap64 ((l0.length : Int) * 4) : Int).toNat 0 : List Int)).bind fun y121 => (N1limbs_text.l0 k l0 y121 (y121.length : Int) 0)) else (none)) else (none)
set_option maxHeartbeats 8000000 in
set_option maxRecDepth 100000 in
theorem N1limbs_text.calls (k : Nat) (A0 : Option Addr) (c0 : Nat) (l0 : List Int) (r : ByteArray) (w : World) (hr0 : Kd.C (Kd.int .u32) w A0 l0.length l0) (hc0 : l0.length ≤ c0) (h : N1limbs_text.f k l0 = some r) :
 Calls Tryd.prog 67 #[.slice A0 l0.length c0] w fun e w' => e = .returned (.string r) ∧ Below w.heap.size w w' := by
 have HR0 := Aside0.mk hr0
 have HC0 := Aside0.mk hc0
 clear hr0 hc0
 have HB := Aside0.mk (Below.refl w.heap.size w)
 have H : (if 0 ≤ (wrap64 ((l0.length : Int) * 4)) then (if (wrap64 ((l0.length : Int) * 4) : Int).toNat ≤ 281474976710656 then ((some (List.replicate (wrap64 ((l0.length : Int) * 4) : Int).toNat 0 : List Int)).bind fun y121 => (N1limbs_text.l0 k l0 y121 (y121.length : Int) 0)) else (none)) else (none)) = some r := h
 clear h
 obtain ⟨ji2, hji2, hji2w⟩ := jI ((l0.length : Int) * 4)
 first | rw [hji2] at H | simp only [hji2] at H
 replace H := iteE H
 obtain ⟨c3b0, c3b1, H⟩ := H
 replace H := iteE H
 obtain ⟨c4b0, c4b1, H⟩ := H
 obtain ⟨y121, hy121⟩ : ∃ y_ : List Int, y_ = (List.replicate (ji2 : Int).toNat 0) := ⟨_, rfl⟩
 (try rw [Option.bind_some] at H); (try rw [← hy121] at H)
 have Ny121 := Aside0.mk hy121
 clear hy121
 have H' := Aside0.mk H
 clear H
 go_enter Tryd.func67, Tryd.ntmps67
 go_wp2_with (first | ((with_reducible refine gate_dst (N := 8) rfl ?_); refine Kd.R_make (Kd.int .u8) _ 5 rfl (N := 8) rfl 100 _ _ rfl ji2 rfl rfl Tryd.underlying100 (.int .u8 0) 1 info5 rfl (by decide) (by omega) 0 (ok := fun _ => True) (okp := fun _ => True) rfl (fun _ hk => hk) trivial (of_decide_eq_true zq0) (Nat.le_trans (Nat.mul_le_mul_right _ (of_decide_eq_true zq0 : ji2.toNat ≤ 281474976710656)) (by omega)) (Below.refl _ _) (Nat.le_refl _) ?_; intro v122 w5 ho6 hb hg_ hnew_; clear hg_ hnew_; (first | rw [← Ny121.out] at ho6 | (simp only [Int.reduceToNat] at ho6; rw [← Ny121.out] at ho6)); have n0_ := Aside0.mk (Kd.R_lower ho6 (below_size zH)); have n1_ := sB hb; revert n0_ n1_; clear HB; intro HO123 HB; clear hb ho6; obtain ⟨Ao7, co7, eo7⟩ := Kd.R_slice HO123.out; subst eo7))
 go_loopg [11] k (fun kq v11 w' => ∃ (x3_1 : List Int) (x11_1 : Int), v11 = .int .i64 x11_1 ∧ Aside0 (N1limbs_text.l0 kq l0 x3_1 (y121.length : Int) x11_1 = some r) ∧ Aside0 (kq ≤ k) ∧ Aside0 (Kd.R (Kd.int .u8) 5 w' w.heap.size (fun _ => True) (.slice Ao7 y121.length co7) x3_1) ∧ Aside0 (Below w.heap.size w w'))
 case atStart => exact ⟨(y121), (0), zq1, H', ⟨Nat.le_refl _⟩, ⟨by (with_reducible repeat (first | apply Kd.R_alloc | apply Kd.R_drewN | apply Kd.R_drew)); exact HO123.out⟩, ⟨zH⟩⟩
 case round =>
  clear H'
  obtain ⟨x3_1, x11_1, rfl, HA, HK1, HO_3, HB⟩ := hrel
  have hl3_1 := (Kd.R_reads' HO_3.out).1
  rw [hl3_1] at HO_3
  (try simp only [hl3_1])
  cases gk with
  | zero => exact absurd HA.out (by simp [N1limbs_text.l0])
  | succ k1 =>
   have H := HA.out
   clear HA
   simp only [N1limbs_text.l0] at H
   by_cases c8 : x11_1 < (y121.length : Int)
   ·rw [if_pos c8] at H
    have c8b0 := decide_eq_true c8
    (try (have c8x0 := c8b0; simp only [hl3_1] at c8x0))
    clear c8
    obtain ⟨ji9, hji9, hji9w⟩ := jI (Int.tdiv x11_1 4)
    first | rw [hji9] at H | simp only [hji9] at H
    replace H := iteD H
    obtain ⟨c10b0, H⟩ := H
    replace H := of_ite H
    obtain ⟨c11, H⟩ := H
    have c11b0 := decide_eq_true c11
    (try (have c11x0 := c11b0; simp only [hl3_1] at c11x0))
    clear c11
    obtain ⟨ji12, hji12, hji12w⟩ := jI (8 * (Int.tmod x11_1 4))
    first | rw [hji12] at H | simp only [hji12] at H
    replace H := iteE H
    obtain ⟨c13b0, c13b1, H⟩ := H
    replace H := iteE H
    obtain ⟨c14b0, c14b1, H⟩ := H
    obtain ⟨ji15, hji15, hji15w⟩ := jI ((wrap64 ((x3_1.length : Int) - 1)) - x11_1)
    first | rw [hji15] at H | simp only [hji15] at H
    replace H := iteD H
    obtain ⟨c16b0, H⟩ := H
    replace H := of_ite H
    obtain ⟨c17, H⟩ := H
    have c17b0 := decide_eq_true c17
    (try (have c17x0 := c17b0; simp only [hl3_1] at c17x0))
    clear c17
    obtain ⟨y125, hy125⟩ : ∃ y_ : List Int, y_ = (x3_1.set ((ji15) : Int).toNat (((rd l0 (ji9)) / 2 ^ (ji12).toNat) % 256)) := ⟨_, rfl⟩
    (try rw [Option.bind_some] at H); (try rw [← hy125] at H)
    have Ny125 := Aside0.mk hy125
    clear hy125
    have H' := Aside0.mk H
    clear H
    obtain ⟨ad124, e124, hx124_0, p124, q124⟩ := atI HR0.out (ji9)
    cases e124
    (try replace hx124_0 := (HB.out.cell (World.block_lt_of_cell? w _ hx124_0)).trans hx124_0)
    have p18 : 0 ≤ ((ji15) : Int) := of_decide_eq_true zq0
    have q18 : ((ji15) : Int) < ((x3_1.length : Int) : Int) := of_decide_eq_true zq0
    obtain ⟨go18, co18, eo18, gb18, gl18, cl18, HG18⟩ := Kd.R_form HO_3.out (by omega)
    (first | cases eo18 | (injection eo18 with ea_ en_ ec_; (first | subst ea_ | (injection ea_ with ea_; subst ea_)); subst ec_; clear en_))
    have GB18 := Aside0.mk gb18
    have GG18 := Aside0.mk HG18
    clear gb18 gl18 HG18
    obtain ⟨hx18_0, hf18_0⟩ := Kd.R_celln 0 HO_3.out ((ji15) : Int) p18 q18
    (try simp only [Go.IntWalk.toNatUp] at hx18_0 hf18_0)
    replace p18 := eq_true p18
    replace q18 := eq_true q18
    have HP19 := Kd.R_putg HO_3.out ((ji15) : Int) (((rd l0 (ji9)) / 2 ^ (ji12).toNat) % 256)
    go_wp2_with (first | ((with_reducible refine gate_store (t := 5) (p := 30) rfl ?_); refine store_event (t := 5) (p := 30) (v := ?vo_w20) (w1 := (wr.setCell ⟨go18, ((ji15) : Int).toNat, none⟩ (.int .u8 (((rd l0 (ji9)) / 2 ^ (ji12).toNat) % 256)))) ?hg ?ho ?hn ?hr ?_; (case ho => rfl); (case hg => rfl); (case hn => rfl); (case hr => first | (go_simp; done) | (go_simp; rfl)); intro w20 hw; have hg : wr.grownBy w20 (some go18) := (by rw [hw]; exact HP19.2); have hp_ : Kd.R (Kd.int .u8) 5 w20 w.heap.size (fun _ => True) (.slice (some ⟨go18, 0, none⟩) x3_1.length co7) y125 := (by rw [hw, Ny125.out]; exact HP19.1); clear HP19; have n0_ := Aside0.mk (hp_); have n1_ := Aside0.mk ((by rw [hw]; exact below_set (HB.out) GB18.out : Below w.heap.size w w20)); revert n0_ n1_; clear HO_3 HB; intro HO_3 HB; clear hg hw hp_))
    (try simp only [← hl3_1])
    go_roundg k1
    case measure => have := HK1.out; omega
    case rel => exact ⟨(y125), (wrap64 (x11_1 + 1)), zq1, H', ⟨by have := HK1.out; omega⟩, ⟨by (try simp only [hl3_1]); (with_reducible repeat (first | apply Kd.R_alloc | apply Kd.R_drewN | apply Kd.R_drew)); exact HO_3.out⟩, ⟨zH⟩⟩
   ·rw [if_neg c8] at H
    have c8b0 := decide_eq_false c8
    (try (have c8x0 := c8b0; simp only [hl3_1] at c8x0))
    clear c8
    replace H := bS H
    obtain ⟨t126, A21, H⟩ := H
    obtain rfl := Option.some.inj H
    have hcv22 := own_string (P := Tryd.prog) Tryd.underlying100 Tryd.underlying5 Tryd.underlying9 (Kd.own_of_R HO_3.out)
    go_wp2_with (first | (refine goesLA 34 Tryd.func63 #[.string (strOfNums x3_1)] ?_; (with_reducible refine (N1Normalize.calls k1 (strOfNums x3_1) t126 _ A21.out).mono ?_); rintro e w' ⟨rfl, ⟨nd, rfl⟩⟩; refine ⟨_, rfl, ?_⟩))
    go_ret
    exact ⟨by first | rfl | (simp [errW_none, errW_some] <;> rfl) | (simp only [← hji2]; first | rfl | (simp [errW_none, errW_some] <;> rfl)) | (simp [*, errW_none, errW_some] <;> rfl), zH⟩
def N1sign.f (a0 : Int) : Option (Int) := if a0 < 0 then (some (-1)) else (if a0 > 0 then (some 1) else (some 0))
set_option maxHeartbeats 8000000 in
set_option maxRecDepth 100000 in
theorem N1sign.calls (a0 : Int) (r : Int) (w : World) (h : N1sign.f a0 = some r) :
 Calls Tryd.prog 72 #[.int .i64 a0] w fun e w' => e = .returned (.int .i64 r) ∧ Drawn0 w w' := by
 have H : (if a0 < 0 then (some (-1)) else (if a0 > 0 then (some 1) else (some 0))) = some r := h
 clear h
 by_cases c2 : a0 < 0
 ·rw [if_pos c2] at H
  have c2b0 := decide_eq_true c2
  clear c2
  obtain rfl := Option.some.inj H
  go_enter Tryd.func72, Tryd.ntmps72
  go_wp2
  go_ret
  exact ⟨by first | rfl | (simp; done) | (simp [*]; done), by repeat (first | exact Drawn0.refl _ | apply Drawn0.step)⟩
 ·rw [if_neg c2] at H
  have c2b0 := decide_eq_false c2
  clear c2
  by_cases c3 : a0 > 0
  ·rw [if_pos c3] at H
   have c3b0 := decide_eq_true c3
   clear c3
   obtain rfl := Option.some.inj H
   go_enter Tryd.func72, Tryd.ntmps72
   go_wp2
   go_ret
   exact ⟨by first | rfl | (simp; done) | (simp [*]; done), by repeat (first | exact Drawn0.refl _ | apply Drawn0.step)⟩
  ·rw [if_neg c3] at H
   have c3b0 := decide_eq_false c3
   clear c3
   obtain rfl := Option.some.inj H
   go_enter Tryd.func72, Tryd.ntmps72
   go_wp2
   go_ret
   exact ⟨by first | rfl | (simp; done) | (simp [*]; done), by repeat (first | exact Drawn0.refl _ | apply Drawn0.step)⟩
def N1compare.l0 : Nat → List Int → List Int → Int → Option (Int)
 | 0, _, _, _ => none
 | k + 1, x0, x1, x5 => if x5 ≥ 0 then (if 0 ≤ x5 then (if x5 < (x0.length : Int) then (if x5 < (x1.length : Int) then (if (rd x0 x5) = (rd x1 x5) then (N1compare.l0 k x0 x1 (wrap64 (x5 - 1))) else (if (rd x0 x5) < (rd x1 x5) then (some (-1)) else (some 1))) else (none)) else (none)) else (none)) else (some 0)
def N1compare.f (k : Nat) (l0 : List Int) (l1 : List Int) : Option (Int) := if (l0.length : Int) = (l1.length : Int) then (N1compare.l0 k l0 l1 (wrap64 ((l0.length : Int) - 1))) else ((N1sign.f (wrap64 ((l0.length : Int) - (l1.length : Int)))).bind fun t127 => (some t127))
set_option maxHeartbeats 8000000 in
set_option maxRecDepth 100000 in
theorem N1compare.calls (k : Nat) (A0 : Option Addr) (c0 : Nat) (l0 : List Int) (A1 : Option Addr) (c1 : Nat) (l1 : List Int) (r : Int) (w : World) (hr0 : Kd.C (Kd.int .u32) w A0 l0.length l0) (hc0 : l0.length ≤ c0) (hr1 : Kd.C (Kd.int .u32) w A1 l1.length l1) (hc1 : l1.length ≤ c1) (h : N1compare.f k l0 l1 = some r) :
 Calls Tryd.prog 88 #[.slice A0 l0.length c0, .slice A1 l1.length c1] w fun e w' => e = .returned (.int .i64 r) ∧ Drawn0 w w' := by
 have HR0 := Aside0.mk hr0
 have HC0 := Aside0.mk hc0
 clear hr0 hc0
 have HR1 := Aside0.mk hr1
 have HC1 := Aside0.mk hc1
 clear hr1 hc1
 have H : (if (l0.length : Int) = (l1.length : Int) then (N1compare.l0 k l0 l1 (wrap64 ((l0.length : Int) - 1))) else ((N1sign.f (wrap64 ((l0.length : Int) - (l1.length : Int)))).bind fun t127 => (some t127))) = some r := h
 clear h
 by_cases c3 : (l0.length : Int) = (l1.length : Int)
 ·rw [if_pos c3] at H
  have c3b0 := beq_iff_eq.mpr c3
  have c3b1 : ((l0.length : Int) != (l1.length : Int)) = false := bne_eq_false_iff_eq.mpr c3
  have c3b2 : (l0.length == l1.length) = true := by first | simpa using c3 | (simp at c3 ⊢; omega)
  clear c3
  have H' := Aside0.mk H
  clear H
  go_enter Tryd.func88, Tryd.ntmps88
  go_wp2
  repeat (go_quiet (fail); try go_wp2)
  go_loopg [5] k (fun kq v5 w' => ∃ (x5_1 : Int), v5 = .int .i64 x5_1 ∧ Aside0 (N1compare.l0 kq l0 l1 x5_1 = some r) ∧ Aside0 (kq ≤ k) ∧ Drawn0 w w')
  case atStart => exact ⟨(wrap64 ((l0.length : Int) - 1)), zq1, H', ⟨Nat.le_refl _⟩, by repeat (first | exact Drawn0.refl _ | apply Drawn0.step)⟩
  case round =>
   clear H'
   obtain ⟨x5_1, rfl, HA, HK1, ⟨m1, rfl⟩⟩ := hrel
   cases gk with
   | zero => exact absurd HA.out (by simp [N1compare.l0])
   | succ k1 =>
    have H := HA.out
    clear HA
    simp only [N1compare.l0] at H
    by_cases c4 : x5_1 ≥ 0
    ·rw [if_pos c4] at H
     have c4b0 := decide_eq_true c4
     clear c4
     replace H := iteD H
     obtain ⟨c5b0, H⟩ := H
     replace H := iteD H
     obtain ⟨c6b0, H⟩ := H
     replace H := iteD H
     obtain ⟨c7b0, H⟩ := H
     by_cases c8 : (rd l0 x5_1) = (rd l1 x5_1)
     ·rw [if_pos c8] at H
      have c8b0 := beq_iff_eq.mpr c8
      have c8b1 : ((rd l0 x5_1) != (rd l1 x5_1)) = false := bne_eq_false_iff_eq.mpr c8
      clear c8
      have H' := Aside0.mk H
      clear H
      obtain ⟨ad128, e128, hx128_0, p128, q128⟩ := atI HR0.out x5_1
      cases e128
      obtain ⟨ad129, e129, hx129_0, p129, q129⟩ := atI HR1.out x5_1
      cases e129
      go_wp2
      repeat (go_quiet (fail); try go_wp2)
      go_roundg k1
      case measure => have := HK1.out; omega
      case rel => exact ⟨(wrap64 (x5_1 - 1)), zq1, H', ⟨by have := HK1.out; omega⟩, by repeat (first | exact Drawn0.refl _ | apply Drawn0.step)⟩
     ·rw [if_neg c8] at H
      have c8b0 := beq_eq_false_iff_ne.mpr c8
      have c8b1 := bne_iff_ne.mpr c8
      by_cases c9 : (rd l0 x5_1) < (rd l1 x5_1)
      ·rw [if_pos c9] at H
       have c9b0 := decide_eq_true c9
       clear c9
       obtain rfl := Option.some.inj H
       obtain ⟨ad128, e128, hx128_0, p128, q128⟩ := atI HR0.out x5_1
       cases e128
       obtain ⟨ad129, e129, hx129_0, p129, q129⟩ := atI HR1.out x5_1
       cases e129
       obtain ⟨ad130, e130, hx130_0, p130, q130⟩ := atI HR0.out x5_1
       obtain rfl : ad128 = ad130 := (by injection e130)
       obtain ⟨ad131, e131, hx131_0, p131, q131⟩ := atI HR1.out x5_1
       obtain rfl : ad129 = ad131 := (by injection e131)
       go_wp2
       repeat (go_quiet (fail); try go_wp2)
       go_ret
       exact ⟨by first | rfl | (simp; done) | (simp [*]; done), by repeat (first | exact Drawn0.refl _ | apply Drawn0.step)⟩
      ·rw [if_neg c9] at H
       have c9b0 := decide_eq_false c9
       clear c9
       obtain rfl := Option.some.inj H
       obtain ⟨ad128, e128, hx128_0, p128, q128⟩ := atI HR0.out x5_1
       cases e128
       obtain ⟨ad129, e129, hx129_0, p129, q129⟩ := atI HR1.out x5_1
       cases e129
       obtain ⟨ad130, e130, hx130_0, p130, q130⟩ := atI HR0.out x5_1
       obtain rfl : ad128 = ad130 := (by injection e130)
       obtain ⟨ad131, e131, hx131_0, p131, q131⟩ := atI HR1.out x5_1
       obtain rfl : ad129 = ad131 := (by injection e131)
       go_wp2
       repeat (go_quiet (fail); try go_wp2)
       go_ret
       exact ⟨by first | rfl | (simp; done) | (simp [*]; done), by repeat (first | exact Drawn0.refl _ | apply Drawn0.step)⟩
    ·rw [if_neg c4] at H
     have c4b0 := decide_eq_false c4
     clear c4
     obtain rfl := Option.some.inj H
     go_wp2
     repeat (go_quiet (fail); try go_wp2)
     go_ret
     exact ⟨by first | rfl | (simp; done) | (simp [*]; done), by repeat (first | exact Drawn0.refl _ | apply Drawn0.step)⟩
 ·rw [if_neg c3] at H
  have c3b0 := beq_eq_false_iff_ne.mpr c3
  have c3b1 := bne_iff_ne.mpr c3
  have c3b2 : (l0.length == l1.length) = false := by first | simpa using c3 | (simp at c3 ⊢; omega)
  replace H := bS H
  obtain ⟨t127, A10, H⟩ := H
  obtain rfl := Option.some.inj H
  go_enter Tryd.func88, Tryd.ntmps88
  go_wp2_with (first | (go_at_call 72; (with_reducible refine (N1sign.calls (wrap64 ((l0.length : Int) - (l1.length : Int))) t127 _ A10.out).mono ?_); rintro e w' ⟨rfl, ⟨nd, rfl⟩⟩; (try first | exact ⟨rfl, _, World.drewN_drewN _ _ _⟩ | exact ⟨rfl, _, Eq.trans (World.drewN_drewN _ _ _) (congrArg (World.drewN _) (Nat.add_assoc _ _ _))⟩)))
  repeat (go_quiet (first | (go_at_call 72; (with_reducible refine (N1sign.calls (wrap64 ((l0.length : Int) - (l1.length : Int))) t127 _ A10.out).mono ?_); rintro e w' ⟨rfl, ⟨nd, rfl⟩⟩; (try first | exact ⟨rfl, _, World.drewN_drewN _ _ _⟩ | exact ⟨rfl, _, Eq.trans (World.drewN_drewN _ _ _) (congrArg (World.drewN _) (Nat.add_assoc _ _ _))⟩))); try go_wp2_with (first | (go_at_call 72; (with_reducible refine (N1sign.calls (wrap64 ((l0.length : Int) - (l1.length : Int))) t127 _ A10.out).mono ?_); rintro e w' ⟨rfl, ⟨nd, rfl⟩⟩; (try first | exact ⟨rfl, _, World.drewN_drewN _ _ _⟩ | exact ⟨rfl, _, Eq.trans (World.drewN_drewN _ _ _) (congrArg (World.drewN _) (Nat.add_assoc _ _ _))⟩))))
  go_ret
  exact ⟨by first | rfl | (simp; done) | (simp [*]; done), by repeat (first | exact Drawn0.refl _ | apply Drawn0.step)⟩
def N1divideSmall.l0 : Nat → List Int → Int → List Int → Int → Int → Option (List Int × Int)
 | 0, _, _, _, _, _ => none
 | k + 1, x0, x1, x6, x7, x8 => if x8 ≥ 0 then (if 0 ≤ x8 then (if x8 < (x0.length : Int) then (if (IntKind.u64.wrap (x1)) = 0 then (none) else (if x8 < (x6.length : Int) then (N1divideSmall.l0 k x0 x1 (x6.set (x8 : Int).toNat ((IntKind.u64.wrap (Int.tdiv (Go.bits .or .u64 (IntKind.u64.wrap (x7 * 4294967296)) (IntKind.u64.wrap (rd x0 x8))) (IntKind.u64.wrap (x1)))) % 4294967296)) (Int.tmod (Go.bits .or .u64 (IntKind.u64.wrap (x7 * 4294967296)) (IntKind.u64.wrap (rd x0 x8))) (IntKind.u64.wrap (x1))) (wrap64 (x8 - 1))) else (none))) else (none)) else (none)) else ((N1limbs_trim.f k x6).bind fun t137 => (some (t137, (x7) % 4294967296)))
def N1divideSmall.f (k : Nat) (l0 : List Int) (a1 : Int) : Option (List Int × Int) := if 0 ≤ (l0.length : Int) then (if ((l0.length : Int) : Int).toNat ≤ 70368744177664 then (N1divideSmall.l0 k l0 a1 (List.replicate ((l0.length : Int) : Int).toNat 0) 0 (wrap64 ((l0.length : Int) - 1))) else (none)) else (none)
set_option maxHeartbeats 8000000 in
set_option maxRecDepth 100000 in
theorem N1divideSmall.calls (k : Nat) (A0 : Option Addr) (c0 : Nat) (l0 : List Int) (a1 : Int) (r1 : List Int) (r2 : Int) (w : World) (hr0 : Kd.C (Kd.int .u32) w A0 l0.length l0) (hc0 : l0.length ≤ c0) (h : N1divideSmall.f k l0 a1 = some (r1, r2)) :
 Calls Tryd.prog 97 #[.slice A0 l0.length c0, .int .u32 a1] w fun e w' => ∃ v0_ : Value, e = .returned (.tuple #[v0_, .int .u32 r2]) ∧ Kd.V (Kd.int .u32) 86 w' w.heap.size (fun k_ => (w.heap.size ≤ k_)) v0_ r1 ∧ Below w.heap.size w w' := by
 have HR0 := Aside0.mk hr0
 have HC0 := Aside0.mk hc0
 clear hr0 hc0
 have HB := Aside0.mk (Below.refl w.heap.size w)
 have H : (if 0 ≤ (l0.length : Int) then (if ((l0.length : Int) : Int).toNat ≤ 70368744177664 then (N1divideSmall.l0 k l0 a1 (List.replicate ((l0.length : Int) : Int).toNat 0) 0 (wrap64 ((l0.length : Int) - 1))) else (none)) else (none)) = some (r1, r2) := h
 clear h
 replace H := iteE H
 obtain ⟨c3b0, c3b1, H⟩ := H
 replace H := iteE H
 obtain ⟨c4b0, c4b1, H⟩ := H
 obtain ⟨y132, hy132⟩ : ∃ y_ : List Int, y_ = (List.replicate ((l0.length : Int) : Int).toNat 0) := ⟨_, rfl⟩
 (try rw [Option.bind_some] at H); (try rw [← hy132] at H)
 have Ny132 := Aside0.mk hy132
 clear hy132
 have H' := Aside0.mk H
 clear H
 go_enter Tryd.func97, Tryd.ntmps97
 go_wp2_with (first | ((with_reducible refine gate_dst (N := 12) rfl ?_); refine Kd.R_make (Kd.int .u32) _ 86 rfl (N := 12) rfl 84 _ _ rfl (l0.length : Int) rfl rfl Tryd.underlying84 (.int .u32 0) 4 info86 rfl (by decide) (by omega) 0 (ok := fun _ => True) (okp := fun _ => True) rfl (fun _ hk => hk) trivial (of_decide_eq_true zq0) (Nat.le_trans (Nat.mul_le_mul_right _ (of_decide_eq_true zq0 : (l0.length : Int).toNat ≤ 70368744177664)) (by omega)) (Below.refl _ _) (Nat.le_refl _) ?_; intro v133 w5 ho6 hb hg_ hnew_; clear hg_ hnew_; (first | rw [← Ny132.out] at ho6 | (simp only [Int.reduceToNat] at ho6; rw [← Ny132.out] at ho6)); have n0_ := Aside0.mk (Kd.R_lower (Kd.R_newM (M := fun k_ => (w.heap.size ≤ k_)) ho6 (below_size zH) (fun k_ h_ => h_)) (below_size zH)); have n1_ := sB hb; revert n0_ n1_; clear HB; intro HO134 HB; clear hb ho6))
 go_loopg [7, 8] k (fun kq v7 v8 w' => ∃ (x6_1 : List Int) (x7_1 : Int) (x8_1 : Int), v7 = .int .u64 x7_1 ∧ v8 = .int .i64 x8_1 ∧ Aside0 (N1divideSmall.l0 kq l0 a1 x6_1 x7_1 x8_1 = some (r1, r2)) ∧ Aside0 (kq ≤ k) ∧ Aside0 (Kd.R (Kd.int .u32) 86 w' w.heap.size (fun k_ => (w.heap.size ≤ k_)) v133 x6_1) ∧ Aside0 (Below w.heap.size w w'))
 case atStart => exact ⟨(y132), (0), (wrap64 ((l0.length : Int) - 1)), zq1, zq1, H', ⟨Nat.le_refl _⟩, ⟨by (with_reducible repeat (first | apply Kd.R_alloc | apply Kd.R_drewN | apply Kd.R_drew)); exact Kd.R_mono HO134.out (fun _ hk => hk.1)⟩, ⟨zH⟩⟩
 case round =>
  clear H'
  obtain ⟨x6_1, x7_1, x8_1, rfl, rfl, HA, HK1, HO_6, HB⟩ := hrel
  cases gk with
  | zero => exact absurd HA.out (by simp [N1divideSmall.l0])
  | succ k1 =>
   have H := HA.out
   clear HA
   simp only [N1divideSmall.l0] at H
   by_cases c7 : x8_1 ≥ 0
   ·rw [if_pos c7] at H
    have c7b0 := decide_eq_true c7
    clear c7
    replace H := iteD H
    obtain ⟨c8b0, H⟩ := H
    replace H := iteD H
    obtain ⟨c9b0, H⟩ := H
    by_cases c10 : (IntKind.u64.wrap (a1)) = 0
    ·rw [if_pos c10] at H
     exact absurd H (by simp)
    ·rw [if_neg c10] at H
     have c10b0 := beq_eq_false_iff_ne.mpr c10
     have c10b1 := bne_iff_ne.mpr c10
     replace H := iteD H
     obtain ⟨c11b0, H⟩ := H
     obtain ⟨y136, hy136⟩ : ∃ y_ : List Int, y_ = (x6_1.set (x8_1 : Int).toNat ((IntKind.u64.wrap (Int.tdiv (Go.bits .or .u64 (IntKind.u64.wrap (x7_1 * 4294967296)) (IntKind.u64.wrap (rd l0 x8_1))) (IntKind.u64.wrap (a1)))) % 4294967296)) := ⟨_, rfl⟩
     (try rw [Option.bind_some] at H); (try rw [← hy136] at H)
     have Ny136 := Aside0.mk hy136
     clear hy136
     have H' := Aside0.mk H
     clear H
     obtain ⟨ad135, e135, hx135_0, p135, q135⟩ := atI HR0.out x8_1
     cases e135
     (try replace hx135_0 := (HB.out.cell (World.block_lt_of_cell? w _ hx135_0)).trans hx135_0)
     have p12 : 0 ≤ (x8_1 : Int) := of_decide_eq_true zq0
     have q12 : (x8_1 : Int) < ((x6_1.length : Int) : Int) := of_decide_eq_true zq0
     obtain ⟨go12, co12, eo12, gb12, gl12, cl12, HG12⟩ := Kd.R_form HO_6.out (by omega)
     (first | cases eo12 | (injection eo12 with ea_ en_ ec_; (first | subst ea_ | (injection ea_ with ea_; subst ea_)); subst ec_; clear en_))
     have GB12 := Aside0.mk gb12
     have GG12 := Aside0.mk HG12
     clear gb12 gl12 HG12
     obtain ⟨hx12_0, hf12_0⟩ := Kd.R_celln 0 HO_6.out (x8_1 : Int) p12 q12
     (try simp only [Go.IntWalk.toNatUp] at hx12_0 hf12_0)
     replace p12 := eq_true p12
     replace q12 := eq_true q12
     have HP13 := Kd.R_putg HO_6.out (x8_1 : Int) ((IntKind.u64.wrap (Int.tdiv (Go.bits .or .u64 (IntKind.u64.wrap (x7_1 * 4294967296)) (IntKind.u64.wrap (rd l0 x8_1))) (IntKind.u64.wrap (a1)))) % 4294967296)
     go_wp2_with (first | ((with_reducible refine gate_store (t := 86) (p := 35) rfl ?_); refine store_event (t := 86) (p := 35) (v := ?vo_w14) (w1 := (wr.setCell ⟨go12, (x8_1 : Int).toNat, none⟩ (.int .u32 ((IntKind.u64.wrap (Int.tdiv (Go.bits .or .u64 (IntKind.u64.wrap (x7_1 * 4294967296)) (IntKind.u64.wrap (rd l0 x8_1))) (IntKind.u64.wrap (a1)))) % 4294967296)))) ?hg ?ho ?hn ?hr ?_; (case ho => rfl); (case hg => rfl); (case hn => rfl); (case hr => first | (go_simp; done) | (go_simp; rfl)); intro w14 hw; have hg : wr.grownBy w14 (some go12) := (by rw [hw]; exact HP13.2); have hp_ : Kd.R (Kd.int .u32) 86 w14 w.heap.size (fun k_ => (w.heap.size ≤ k_)) (.slice (some ⟨go12, 0, none⟩) x6_1.length co12) y136 := (by rw [hw, Ny136.out]; exact HP13.1); clear HP13; have n0_ := Aside0.mk (hp_); have n1_ := Aside0.mk ((by rw [hw]; exact below_set (HB.out) GB12.out : Below w.heap.size w w14)); revert n0_ n1_; clear HO_6 HB; intro HO_6 HB; clear hg hw hp_))
     go_roundg k1
     case measure => have := HK1.out; omega
     case rel => exact ⟨(y136), (Int.tmod (Go.bits .or .u64 (IntKind.u64.wrap (x7_1 * 4294967296)) (IntKind.u64.wrap (rd l0 x8_1))) (IntKind.u64.wrap (a1))), (wrap64 (x8_1 - 1)), zq1, zq1, H', ⟨by have := HK1.out; omega⟩, ⟨by (with_reducible repeat (first | apply Kd.R_alloc | apply Kd.R_drewN | apply Kd.R_drew)); exact HO_6.out⟩, ⟨zH⟩⟩
   ·rw [if_neg c7] at H
    have c7b0 := decide_eq_false c7
    clear c7
    replace H := bS H
    obtain ⟨t137, A15, H⟩ := H
    simp only [Option.some.injEq, Prod.mk.injEq] at H
    obtain ⟨rfl, rfl⟩ := H
    obtain ⟨Ao16, co16, eo16⟩ := Kd.R_slice HO_6.out
    subst eo16
    go_wp2_with (first | (refine goesLA 41 Tryd.func86 #[.slice Ao16 x6_1.length co16] ?_; (with_reducible refine (N1limbs_trim.calls k1 (fun k_ => some k_ = (.slice Ao16 x6_1.length co16 : Value).ownBlock) _ _ x6_1 t137 _ ?side1 A15.out).mono ?_); (case side1 => exact Kd.R_V (Kd.R_tight rfl (HO_6.out))); rintro e w17 ⟨v138, rfl, ho0, hb⟩; refine ⟨_, rfl, ?_⟩; have n0_ := Aside0.mk (Kd.R_below (by (with_reducible repeat (first | apply Kd.R_alloc | apply Kd.R_drewN | apply Kd.R_drew)); exact HO_6.out) hb); have n1_ := Aside0.mk (Kd.V_lower (Kd.V_mono (ok' := fun k_ => (w.heap.size ≤ k_)) ho0 (fun k_ hk_ => Or.elim hk_ (fun hs_ => ((HO_6.out).1 k_ hs_.symm)) (fun hn_ => (Nat.le_trans (below_size zH) hn_)))) (below_size zH)); have n2_ := sB hb; revert n0_ n1_ n2_; clear HO_6 HB; intro HO_6 HO139 HB; (try clear hb); (try clear hb2); (try clear hk); (try clear hi); (try clear ho0)))
    go_ret2
    exact ⟨_, zE, by (with_reducible repeat (first | apply Kd.V_alloc | apply Kd.V_drewN | apply Kd.V_drew)); exact HO139.out, zH⟩
def bits_LeadingZeros32.f (a0 : Int) : Option (Int) := if 0 ≤ a0 ∧ a0 ≤ 4294967295 then (some (32 - (Lib.bitLen a0.toNat : Int))) else (none)
theorem bits_LeadingZeros32.calls (a0 : Int) (r : Int) (w : World) (h : bits_LeadingZeros32.f a0 = some r) :
 Calls Tryd.prog 98 #[.int .u32 a0] w fun e w' => e = .returned (.int .i64 r) ∧ Drawn0 w w' := by
 unfold bits_LeadingZeros32.f at h
 split at h
 ·rename_i h1
  obtain rfl := Option.some.inj h
  refine (Tryd.bits_LeadingZeros32 a0 w h1.1 h1.2).mono ?_
  rintro e w' ⟨rfl, rfl⟩
  exact ⟨rfl, Drawn0.refl _⟩
 ·cases h
def N1shift.l0 : Nat → Int → Int → List Int → List Int → Int → Int → Option (List Int)
 | 0, _, _, _, _, _, _ => none
 | k + 1, x1, x2, x7, x13, x14, x15 => if x15 < x14 then (if 0 ≤ x15 then (if x15 < (x13.length : Int) then (if 0 ≤ x1 then (if x1 ≤ 64 then (if x15 < (x7.length : Int) then ((some (x7.set (x15 : Int).toNat (Go.bits .or .u32 (rd x7 x15) ((IntKind.u64.wrap ((IntKind.u64.wrap (rd x13 x15)) * 2 ^ x1.toNat)) % 4294967296)) : List Int)).bind fun y145 => (if (wrap64 (x15 + 1)) < x2 then (if 0 ≤ (wrap64 (x15 + 1)) then (if (wrap64 (x15 + 1)) < (x7.length : Int) then (N1shift.l0 k x1 x2 (y145.set ((wrap64 (x15 + 1)) : Int).toNat (Go.bits .or .u32 (rd y145 (wrap64 (x15 + 1))) (((IntKind.u64.wrap ((IntKind.u64.wrap (rd x13 x15)) * 2 ^ x1.toNat)) / 4294967296) % 4294967296))) x13 x14 (wrap64 (x15 + 1))) else (none)) else (none)) else (N1shift.l0 k x1 x2 y145 x13 x14 (wrap64 (x15 + 1))))) else (none)) else (none)) else (none)) else (none)) else (none)) else (some x7)
def N1shift.f (k : Nat) (l0 : List Int) (a1 : Int) (a2 : Int) : Option (List Int) := if 0 ≤ a2 then (if (a2 : Int).toNat ≤ 70368744177664 then (N1shift.l0 k a1 a2 (List.replicate (a2 : Int).toNat 0) l0 (l0.length : Int) 0) else (none)) else (none)
set_option maxHeartbeats 8000000 in
set_option maxRecDepth 100000 in
theorem N1shift.calls (k : Nat) (A0 : Option Addr) (c0 : Nat) (l0 : List Int) (a1 : Int) (a2 : Int) (r : List Int) (w : World) (hr0 : Kd.C (Kd.int .u32) w A0 l0.length l0) (hc0 : l0.length ≤ c0) (h : N1shift.f k l0 a1 a2 = some r) :
 Calls Tryd.prog 99 #[.slice A0 l0.length c0, .int .u64 a1, .int .i64 a2] w fun e w' => ∃ v0_ : Value, e = .returned (v0_) ∧ Kd.R (Kd.int .u32) 86 w' w.heap.size (fun _ => True) v0_ r ∧ Below w.heap.size w w' := by
 have HR0 := Aside0.mk hr0
 have HC0 := Aside0.mk hc0
 clear hr0 hc0
 have HB := Aside0.mk (Below.refl w.heap.size w)
 have H : (if 0 ≤ a2 then (if (a2 : Int).toNat ≤ 70368744177664 then (N1shift.l0 k a1 a2 (List.replicate (a2 : Int).toNat 0) l0 (l0.length : Int) 0) else (none)) else (none)) = some r := h
 clear h
 replace H := iteE H
 obtain ⟨c4b0, c4b1, H⟩ := H
 replace H := iteE H
 obtain ⟨c5b0, c5b1, H⟩ := H
 obtain ⟨y140, hy140⟩ : ∃ y_ : List Int, y_ = (List.replicate (a2 : Int).toNat 0) := ⟨_, rfl⟩
 (try rw [Option.bind_some] at H); (try rw [← hy140] at H)
 have Ny140 := Aside0.mk hy140
 clear hy140
 have H' := Aside0.mk H
 clear H
 go_enter Tryd.func99, Tryd.ntmps99
 go_wp2_with (first | ((with_reducible refine gate_dst (N := 12) rfl ?_); refine Kd.R_make (Kd.int .u32) _ 86 rfl (N := 12) rfl 84 _ _ rfl a2 rfl rfl Tryd.underlying84 (.int .u32 0) 4 info86 rfl (by decide) (by omega) 0 (ok := fun _ => True) (okp := fun _ => True) rfl (fun _ hk => hk) trivial (of_decide_eq_true zq0) (Nat.le_trans (Nat.mul_le_mul_right _ (of_decide_eq_true zq0 : a2.toNat ≤ 70368744177664)) (by omega)) (Below.refl _ _) (Nat.le_refl _) ?_; intro v141 w6 ho7 hb hg_ hnew_; clear hg_ hnew_; (first | rw [← Ny140.out] at ho7 | (simp only [Int.reduceToNat] at ho7; rw [← Ny140.out] at ho7)); have n0_ := Aside0.mk (Kd.R_lower ho7 (below_size zH)); have n1_ := sB hb; revert n0_ n1_; clear HB; intro HO142 HB; clear hb ho7))
 go_loopg [15] k (fun kq v15 w' => ∃ (x7_1 : List Int) (x15_1 : Int), v15 = .int .i64 x15_1 ∧ Aside0 (N1shift.l0 kq a1 a2 x7_1 l0 (l0.length : Int) x15_1 = some r) ∧ Aside0 (kq ≤ k) ∧ Aside0 (Kd.R (Kd.int .u32) 86 w' w.heap.size (fun _ => True) v141 x7_1) ∧ Aside0 (Below w.heap.size w w'))
 case atStart => exact ⟨(y140), (0), zq1, H', ⟨Nat.le_refl _⟩, ⟨by (with_reducible repeat (first | apply Kd.R_alloc | apply Kd.R_drewN | apply Kd.R_drew)); exact HO142.out⟩, ⟨zH⟩⟩
 case round =>
  clear H'
  obtain ⟨x7_1, x15_1, rfl, HA, HK1, HO_7, HB⟩ := hrel
  cases gk with
  | zero => exact absurd HA.out (by simp [N1shift.l0])
  | succ k1 =>
   have H := HA.out
   clear HA
   simp only [N1shift.l0] at H
   by_cases c8 : x15_1 < (l0.length : Int)
   ·rw [if_pos c8] at H
    have c8b0 := decide_eq_true c8
    clear c8
    replace H := iteD H
    obtain ⟨c9b0, H⟩ := H
    replace H := iteD H
    obtain ⟨c10b0, H⟩ := H
    replace H := iteE H
    obtain ⟨c11b0, c11b1, H⟩ := H
    replace H := iteE H
    obtain ⟨c12b0, c12b1, H⟩ := H
    replace H := iteD H
    obtain ⟨c13b0, H⟩ := H
    obtain ⟨y145, hy145⟩ : ∃ y_ : List Int, y_ = (x7_1.set (x15_1 : Int).toNat (Go.bits .or .u32 (rd x7_1 x15_1) ((IntKind.u64.wrap ((IntKind.u64.wrap (rd l0 x15_1)) * 2 ^ a1.toNat)) % 4294967296))) := ⟨_, rfl⟩
    (try rw [Option.bind_some] at H); (try rw [← hy145] at H)
    have Ny145 := Aside0.mk hy145
    clear hy145
    by_cases c15 : (wrap64 (x15_1 + 1)) < a2
    ·rw [if_pos c15] at H
     have c15b0 := decide_eq_true c15
     clear c15
     obtain ⟨ji16, hji16, hji16w⟩ := jI (x15_1 + 1)
     first | rw [hji16] at H | simp only [hji16] at H
     (try rw [hji16] at c15b0)
     replace H := iteD H
     obtain ⟨c17b0, H⟩ := H
     replace H := iteD H
     obtain ⟨c18b0, H⟩ := H
     obtain ⟨y147, hy147⟩ : ∃ y_ : List Int, y_ = (y145.set ((ji16) : Int).toNat (Go.bits .or .u32 (rd y145 (ji16)) (((IntKind.u64.wrap ((IntKind.u64.wrap (rd l0 x15_1)) * 2 ^ a1.toNat)) / 4294967296) % 4294967296))) := ⟨_, rfl⟩
     (try rw [Option.bind_some] at H); (try rw [← hy147] at H)
     have Ny147 := Aside0.mk hy147
     clear hy147
     have H' := Aside0.mk H
     clear H
     obtain ⟨ad143, e143, hx143_0, p143, q143⟩ := atI HR0.out x15_1
     cases e143
     (try replace hx143_0 := (HB.out.cell (World.block_lt_of_cell? w _ hx143_0)).trans hx143_0)
     obtain ⟨Ao20, co20, eo20⟩ := Kd.R_slice HO_7.out
     subst eo20
     obtain ⟨ad144, e144, hx144_0, p144, q144⟩ := atI (Kd.R_reads' HO_7.out).2.2 x15_1
     cases e144
     have p14 : 0 ≤ (x15_1 : Int) := of_decide_eq_true zq0
     have q14 : (x15_1 : Int) < ((x7_1.length : Int) : Int) := of_decide_eq_true zq0
     obtain ⟨go14, co14, eo14, gb14, gl14, cl14, HG14⟩ := Kd.R_form HO_7.out (by omega)
     (first | cases eo14 | (injection eo14 with ea_ en_ ec_; (first | subst ea_ | (injection ea_ with ea_; subst ea_)); subst ec_; clear en_))
     have GB14 := Aside0.mk gb14
     have GG14 := Aside0.mk HG14
     clear gb14 gl14 HG14
     (first | simp only [add_plain] at hx144_0 | skip)
     obtain ⟨hx14_0, hf14_0⟩ := Kd.R_celln 0 HO_7.out (x15_1 : Int) p14 q14
     (try simp only [Go.IntWalk.toNatUp] at hx14_0 hf14_0)
     replace p14 := eq_true p14
     replace q14 := eq_true q14
     have HP21 := Kd.R_putg HO_7.out (x15_1 : Int) (Go.bits .or .u32 (rd x7_1 x15_1) ((IntKind.u64.wrap ((IntKind.u64.wrap (rd l0 x15_1)) * 2 ^ a1.toNat)) % 4294967296))
     go_wp2_with (first | ((with_reducible refine gate_store (t := 86) (p := 31) rfl ?_); refine store_event (t := 86) (p := 31) (v := ?vo_w22) (w1 := (wr.setCell ⟨go14, (x15_1 : Int).toNat, none⟩ (.int .u32 (Go.bits .or .u32 (rd x7_1 x15_1) ((IntKind.u64.wrap ((IntKind.u64.wrap (rd l0 x15_1)) * 2 ^ a1.toNat)) % 4294967296))))) ?hg ?ho ?hn ?hr ?_; (case ho => rfl); (case hg => rfl); (case hn => rfl); (case hr => first | (go_simp; done) | (go_simp; rfl)); intro w22 hw; have hg : wr.grownBy w22 (some go14) := (by rw [hw]; exact HP21.2); have hp_ : Kd.R (Kd.int .u32) 86 w22 w.heap.size (fun _ => True) (.slice (some ⟨go14, 0, none⟩) x7_1.length co20) y145 := (by rw [hw, Ny145.out]; exact HP21.1); clear HP21; have n0_ := Aside0.mk (hp_); have n1_ := Aside0.mk ((by rw [hw]; exact below_set (HB.out) GB14.out : Below w.heap.size w w22)); revert n0_ n1_; clear HO_7 HB; intro HO_7 HB; clear hg hw hp_; have p146 : 0 ≤ ((ji16) : Int) := of_decide_eq_true zq0; have q146 : (ji16) < (y145.length : Int) := (by have h_ : ((ji16) : Int) < ((x7_1.length : Int) : Int) := of_decide_eq_true zq0; first | (have e_ := (Kd.R_reads' HO_7.out).1; omega) | simpa only [Ny145.out, List.length_set] using h_); have ql146 : (((ji16) : Int) < ((x7_1.length : Int) : Int)) = True := eq_true (of_decide_eq_true zq0); obtain ⟨ad146, e146, hx146_0⟩ := Kd.at_int (Kd.R_reads' HO_7.out).2.2 (ji16) p146 q146; obtain rfl : (⟨go14, 0, none⟩ : Addr) = ad146 := (by injection e146); (first | simp only [add_plain] at hx146_0 | simp only [add_at] at hx146_0 | simp only [Addr.add, Nat.zero_add] at hx146_0 | skip); replace p146 := eq_true p146; replace q146 := eq_true q146; have p19 : 0 ≤ ((ji16) : Int) := of_decide_eq_true zq0; have q19 : ((ji16) : Int) < ((x7_1.length : Int) : Int) := of_decide_eq_true zq0; obtain ⟨hx19_0, hf19_0⟩ := Kd.R_celln 0 HO_7.out ((ji16) : Int) p19 q19; replace p19 := eq_true p19; replace q19 := eq_true q19; obtain ⟨hy23_, hz23_⟩ := Kd.R_celln 0 HO_7.out ((ji16) : Int) (of_decide_eq_true zq0) (of_decide_eq_true zq0); have HP23 := Kd.R_putg HO_7.out ((ji16) : Int) (Go.bits .or .u32 (rd y145 (ji16)) (((IntKind.u64.wrap ((IntKind.u64.wrap (rd l0 x15_1)) * 2 ^ a1.toNat)) / 4294967296) % 4294967296))) | ((with_reducible refine gate_store (t := 86) (p := 45) rfl ?_); refine store_event (t := 86) (p := 45) (v := ?vo_w24) (w1 := (w22.setCell ⟨go14, ((ji16) : Int).toNat, none⟩ (.int .u32 (Go.bits .or .u32 (rd y145 (ji16)) (((IntKind.u64.wrap ((IntKind.u64.wrap (rd l0 x15_1)) * 2 ^ a1.toNat)) / 4294967296) % 4294967296))))) ?hg ?ho ?hn ?hr ?_; (case ho => rfl); (case hg => rfl); (case hn => rfl); (case hr => first | (go_simp; done) | (go_simp; rfl)); intro w24 hw; have hg : w22.grownBy w24 (some go14) := (by rw [hw]; exact HP23.2); have hp_ : Kd.R (Kd.int .u32) 86 w24 w.heap.size (fun _ => True) (.slice (some ⟨go14, 0, none⟩) x7_1.length co20) y147 := (by rw [hw, Ny147.out]; exact HP23.1); clear HP23; have n0_ := Aside0.mk (hp_); have n1_ := Aside0.mk ((by rw [hw]; exact below_set (HB.out) GB14.out : Below w.heap.size w w24)); revert n0_ n1_; clear HO_7 HB; intro HO_7 HB; clear hg hw hp_))
     go_roundg k1
     case measure => have := HK1.out; omega
     case rel => exact ⟨(y147), (ji16), (by first | rfl | (simp; done) | (simp only [← hji16] <;> (first | rfl | simp)) | (simp [*]; done)), H', ⟨by have := HK1.out; omega⟩, ⟨by (with_reducible repeat (first | apply Kd.R_alloc | apply Kd.R_drewN | apply Kd.R_drew)); exact HO_7.out⟩, ⟨zH⟩⟩
    ·rw [if_neg c15] at H
     have c15b0 := decide_eq_false c15
     clear c15
     have H' := Aside0.mk H
     clear H
     obtain ⟨ad143, e143, hx143_0, p143, q143⟩ := atI HR0.out x15_1
     cases e143
     (try replace hx143_0 := (HB.out.cell (World.block_lt_of_cell? w _ hx143_0)).trans hx143_0)
     obtain ⟨Ao25, co25, eo25⟩ := Kd.R_slice HO_7.out
     subst eo25
     obtain ⟨ad144, e144, hx144_0, p144, q144⟩ := atI (Kd.R_reads' HO_7.out).2.2 x15_1
     cases e144
     have p14 : 0 ≤ (x15_1 : Int) := of_decide_eq_true zq0
     have q14 : (x15_1 : Int) < ((x7_1.length : Int) : Int) := of_decide_eq_true zq0
     obtain ⟨go14, co14, eo14, gb14, gl14, cl14, HG14⟩ := Kd.R_form HO_7.out (by omega)
     (first | cases eo14 | (injection eo14 with ea_ en_ ec_; (first | subst ea_ | (injection ea_ with ea_; subst ea_)); subst ec_; clear en_))
     have GB14 := Aside0.mk gb14
     have GG14 := Aside0.mk HG14
     clear gb14 gl14 HG14
     (first | simp only [add_plain] at hx144_0 | skip)
     obtain ⟨hx14_0, hf14_0⟩ := Kd.R_celln 0 HO_7.out (x15_1 : Int) p14 q14
     (try simp only [Go.IntWalk.toNatUp] at hx14_0 hf14_0)
     replace p14 := eq_true p14
     replace q14 := eq_true q14
     have HP26 := Kd.R_putg HO_7.out (x15_1 : Int) (Go.bits .or .u32 (rd x7_1 x15_1) ((IntKind.u64.wrap ((IntKind.u64.wrap (rd l0 x15_1)) * 2 ^ a1.toNat)) % 4294967296))
     go_wp2_with (first | ((with_reducible refine gate_store (t := 86) (p := 31) rfl ?_); refine store_event (t := 86) (p := 31) (v := ?vo_w27) (w1 := (wr.setCell ⟨go14, (x15_1 : Int).toNat, none⟩ (.int .u32 (Go.bits .or .u32 (rd x7_1 x15_1) ((IntKind.u64.wrap ((IntKind.u64.wrap (rd l0 x15_1)) * 2 ^ a1.toNat)) % 4294967296))))) ?hg ?ho ?hn ?hr ?_; (case ho => rfl); (case hg => rfl); (case hn => rfl); (case hr => first | (go_simp; done) | (go_simp; rfl)); intro w27 hw; have hg : wr.grownBy w27 (some go14) := (by rw [hw]; exact HP26.2); have hp_ : Kd.R (Kd.int .u32) 86 w27 w.heap.size (fun _ => True) (.slice (some ⟨go14, 0, none⟩) x7_1.length co25) y145 := (by rw [hw, Ny145.out]; exact HP26.1); clear HP26; have n0_ := Aside0.mk (hp_); have n1_ := Aside0.mk ((by rw [hw]; exact below_set (HB.out) GB14.out : Below w.heap.size w w27)); revert n0_ n1_; clear HO_7 HB; intro HO_7 HB; clear hg hw hp_))
     go_roundg k1
     case measure => have := HK1.out; omega
     case rel => exact ⟨(y145), (wrap64 (x15_1 + 1)), zq1, H', ⟨by have := HK1.out; omega⟩, ⟨by (with_reducible repeat (first | apply Kd.R_alloc | apply Kd.R_drewN | apply Kd.R_drew)); exact HO_7.out⟩, ⟨zH⟩⟩
   ·rw [if_neg c8] at H
    have c8b0 := decide_eq_false c8
    clear c8
    obtain rfl := Option.some.inj H
    go_wp2
    go_ret
    exact ⟨_, zE, by (with_reducible repeat (first | apply Kd.R_alloc | apply Kd.R_drewN | apply Kd.R_drew)); exact HO_7.out, zH⟩
def bits_Add32.f (a0 : Int) (a1 : Int) (a2 : Int) : Option (Int × Int) := some ((IntKind.u64.wrap ((IntKind.u64.wrap ((IntKind.u64.wrap (a0)) + (IntKind.u64.wrap (a1)))) + (IntKind.u64.wrap (a2)))) % 4294967296, ((IntKind.u64.wrap ((IntKind.u64.wrap ((IntKind.u64.wrap (a0)) + (IntKind.u64.wrap (a1)))) + (IntKind.u64.wrap (a2)))) / 4294967296) % 4294967296)
set_option maxHeartbeats 8000000 in
set_option maxRecDepth 100000 in
theorem bits_Add32.calls (a0 : Int) (a1 : Int) (a2 : Int) (r1 : Int) (r2 : Int) (w : World) (h : bits_Add32.f a0 a1 a2 = some (r1, r2)) :
 Calls Tryd.prog 87 #[.int .u32 a0, .int .u32 a1, .int .u32 a2] w fun e w' => e = .returned (.tuple #[.int .u32 r1, .int .u32 r2]) ∧ Drawn0 w w' := by
 have H : (some ((IntKind.u64.wrap ((IntKind.u64.wrap ((IntKind.u64.wrap (a0)) + (IntKind.u64.wrap (a1)))) + (IntKind.u64.wrap (a2)))) % 4294967296, ((IntKind.u64.wrap ((IntKind.u64.wrap ((IntKind.u64.wrap (a0)) + (IntKind.u64.wrap (a1)))) + (IntKind.u64.wrap (a2)))) / 4294967296) % 4294967296)) = some (r1, r2) := h
 clear h
 simp only [Option.some.injEq, Prod.mk.injEq] at H
 obtain ⟨rfl, rfl⟩ := H
 go_enter Tryd.func87, Tryd.ntmps87
 go_wp2
 go_ret2
 exact ⟨by first | rfl | (simp; done) | (simp [*]; done), by repeat (first | exact Drawn0.refl _ | apply Drawn0.step)⟩
def bits_Sub32.f (a0 : Int) (a1 : Int) (a2 : Int) : Option (Int × Int) := some ((((a0 - a1) % 4294967296) - a2) % 4294967296, (Go.bits .or .u32 (Go.bits .and .u32 (Go.bits .xor .u32 4294967295 a0) a1) (Go.bits .and .u32 (Go.bits .xor .u32 4294967295 (Go.bits .xor .u32 a0 a1)) ((((a0 - a1) % 4294967296) - a2) % 4294967296))) / 2147483648)
set_option maxHeartbeats 8000000 in
set_option maxRecDepth 100000 in
theorem bits_Sub32.calls (a0 : Int) (a1 : Int) (a2 : Int) (r1 : Int) (r2 : Int) (w : World) (h : bits_Sub32.f a0 a1 a2 = some (r1, r2)) :
 Calls Tryd.prog 102 #[.int .u32 a0, .int .u32 a1, .int .u32 a2] w fun e w' => e = .returned (.tuple #[.int .u32 r1, .int .u32 r2]) ∧ Drawn0 w w' := by
 have H : (some ((((a0 - a1) % 4294967296) - a2) % 4294967296, (Go.bits .or .u32 (Go.bits .and .u32 (Go.bits .xor .u32 4294967295 a0) a1) (Go.bits .and .u32 (Go.bits .xor .u32 4294967295 (Go.bits .xor .u32 a0 a1)) ((((a0 - a1) % 4294967296) - a2) % 4294967296))) / 2147483648)) = some (r1, r2) := h
 clear h
 simp only [Option.some.injEq, Prod.mk.injEq] at H
 obtain ⟨rfl, rfl⟩ := H
 go_enter Tryd.func102, Tryd.ntmps102
 go_wp2
 go_ret2
 exact ⟨by first | rfl | (simp; done) | (simp [*]; done), by repeat (first | exact Drawn0.refl _ | apply Drawn0.step)⟩
end Go.Proofs.YtggfilmdfpmbmaaDoor.QN
end
section
namespace Go.Proofs.YtggfilmdfpmbmaaDoor.QN
open Go.RowKit Go.Proofs.YtggfilmdfpmbmaaDoorW.PrintWords Go.Proofs.YtggfilmdfpmbmaaDoorW.PrintLast Go.Proofs.YtggfilmdfpmbmaaDoorW.PrintMore
attribute [local go_sem] max2_int min2_int max_two min_two max_three min_three max_four min_four   -- for this text's walks alone
set_option linter.unusedVariables false
set_option linter.unusedSimpArgs false
mutual
def N1Multiply.l0 : Nat → List Int → List Int → List Int → Int → Int → Option (ByteArray)
 | 0, _, _, _, _, _ => none
 | k + 1, x6, x7, x24, x25, x26 => if x26 < x25 then (if 0 ≤ x26 then (if x26 < (x24.length : Int) then (N1Multiply.l1 k x6 x7 x26 (rd x24 x26) 0 x24 x25 x26 x6 (x6.length : Int) 0) else (none)) else (none)) else ((N1limbs_text.f k x7).bind fun t303 => (some t303))
def N1Multiply.l1 : Nat → List Int → List Int → Int → Int → Int → List Int → Int → Int → List Int → Int → Int → Option (ByteArray)
 | 0, _, _, _, _, _, _, _, _, _, _, _ => none
 | k + 1, x6, x7, x8, x9, x10, x24, x25, x26, x31, x32, x33 => if x33 < x32 then (if 0 ≤ x33 then (if x33 < (x31.length : Int) then (if 0 ≤ (wrap64 (x8 + x33)) then (if (wrap64 (x8 + x33)) < (x7.length : Int) then (N1Multiply.l1 k x6 (x7.set ((wrap64 (x8 + x33)) : Int).toNat ((IntKind.u64.wrap ((IntKind.u64.wrap ((IntKind.u64.wrap ((IntKind.u64.wrap (x9)) * (IntKind.u64.wrap (rd x31 x33)))) + (IntKind.u64.wrap (rd x7 (wrap64 (x8 + x33)))))) + x10)) % 4294967296)) x8 x9 ((IntKind.u64.wrap ((IntKind.u64.wrap ((IntKind.u64.wrap ((IntKind.u64.wrap (x9)) * (IntKind.u64.wrap (rd x31 x33)))) + (IntKind.u64.wrap (rd x7 (wrap64 (x8 + x33)))))) + x10)) / 4294967296) x24 x25 x26 x31 x32 (wrap64 (x33 + 1))) else (none)) else (none)) else (none)) else (none)) else (if 0 ≤ (wrap64 (x8 + (x6.length : Int))) then (if (wrap64 (x8 + (x6.length : Int))) < (x7.length : Int) then (N1Multiply.l0 k x6 (x7.set ((wrap64 (x8 + (x6.length : Int))) : Int).toNat ((x10) % 4294967296)) x24 x25 (wrap64 (x26 + 1))) else (none)) else (none))
end
def N1Multiply.f (k : Nat) (a0 : ByteArray) (a1 : ByteArray) : Option (ByteArray) := (N1parse.f k a0).bind fun t294 => ((N1parse.f k a1).bind fun t297 => (if 0 ≤ (wrap64 ((t294.length : Int) + (t297.length : Int))) then (if (wrap64 ((t294.length : Int) + (t297.length : Int)) : Int).toNat ≤ 70368744177664 then (N1Multiply.l0 k t297 (List.replicate (wrap64 ((t294.length : Int) + (t297.length : Int)) : Int).toNat 0) t294 (t294.length : Int) 0) else (none)) else (none)))
set_option maxHeartbeats 8000000 in
set_option maxRecDepth 100000 in
theorem N1Multiply.calls (k : Nat) (a0 : ByteArray) (a1 : ByteArray) (r : ByteArray) (w : World) (h : N1Multiply.f k a0 a1 = some r) :
 Calls Tryd.prog 43 #[.string a0, .string a1] w fun e w' => e = .returned (.string r) ∧ Below w.heap.size w w' := by
 have HB := Aside0.mk (Below.refl w.heap.size w)
 have H : ((N1parse.f k a0).bind fun t294 => ((N1parse.f k a1).bind fun t297 => (if 0 ≤ (wrap64 ((t294.length : Int) + (t297.length : Int))) then (if (wrap64 ((t294.length : Int) + (t297.length : Int)) : Int).toNat ≤ 70368744177664 then (N1Multiply.l0 k t297 (List.replicate (wrap64 ((t294.length : Int) + (t297.length : Int)) : Int).toNat 0) t294 (t294.length : Int) 0) else (none)) else (none)))) = some r := h
 clear h
 replace H := bS H
 obtain ⟨t294, A3, H⟩ := H
 replace H := bS H
 obtain ⟨t297, A4, H⟩ := H
 obtain ⟨ji5, hji5, hji5w⟩ := jI ((t294.length : Int) + (t297.length : Int))
 first | rw [hji5] at H | simp only [hji5] at H
 (try rw [hji5] at A3)
 (try rw [hji5] at A4)
 replace H := iteE H
 obtain ⟨c6b0, c6b1, H⟩ := H
 replace H := iteE H
 obtain ⟨c7b0, c7b1, H⟩ := H
 obtain ⟨y300, hy300⟩ : ∃ y_ : List Int, y_ = (List.replicate (ji5 : Int).toNat 0) := ⟨_, rfl⟩
 (try rw [Option.bind_some] at H); (try rw [← hy300] at H)
 have Ny300 := Aside0.mk hy300
 clear hy300
 have H' := Aside0.mk H
 clear H
 go_enter Tryd.func43, Tryd.ntmps43
 go_wp2_with (first | (refine goesLA 15 Tryd.func66 #[.string a0] ?_; (with_reducible refine (N1parse.calls k a0 t294 _ A3.out).mono ?_); rintro e w8 ⟨v295, rfl, ho0, hb⟩; refine ⟨_, rfl, ?_⟩; have n0_ := Aside0.mk (Kd.V_lower (Kd.V_mono (ok' := fun k_ => True) ho0 (fun k_ hk_ => trivial)) (below_size zH)); have n1_ := sB hb; revert n0_ n1_; clear HB; intro HO296 HB; (try clear hb); (try clear hb2); (try clear hk); (try clear hi); (try clear ho0)) | (refine goesLA 17 Tryd.func66 #[.string a1] ?_; (with_reducible refine (N1parse.calls k a1 t297 _ A4.out).mono ?_); rintro e w9 ⟨v298, rfl, ho0, hb⟩; refine ⟨_, rfl, ?_⟩; have n0_ := Aside0.mk (Kd.V_below (by (with_reducible repeat (first | apply Kd.V_alloc | apply Kd.V_drewN | apply Kd.V_drew)); exact HO296.out) hb); have n1_ := Aside0.mk (Kd.V_lower (Kd.V_mono (ok' := fun k_ => True) ho0 (fun k_ hk_ => trivial)) (below_size zH)); have n2_ := sB hb; revert n0_ n1_ n2_; clear HO296 HB; intro HO296 HO299 HB; (try clear hb); (try clear hb2); (try clear hk); (try clear hi); (try clear ho0); obtain ⟨Ao10, co10, eo10⟩ := Kd.V_slice HO296.out; subst eo10; obtain ⟨Ao11, co11, eo11⟩ := Kd.V_slice HO299.out; subst eo11) | ((with_reducible refine gate_dst (N := 23) rfl ?_); refine Kd.R_make (Kd.int .u32) _ 86 rfl (N := 23) rfl 84 _ _ rfl ji5 rfl rfl Tryd.underlying84 (.int .u32 0) 4 info86 rfl (by decide) (by omega) 0 (ok := fun _ => True) (okp := fun _ => True) rfl (fun _ hk => hk) trivial (of_decide_eq_true zq0) (Nat.le_trans (Nat.mul_le_mul_right _ (of_decide_eq_true zq0 : ji5.toNat ≤ 70368744177664)) (by omega)) (Below.refl _ _) (Nat.le_refl _) ?_; intro v301 w12 ho13 hb hg_ hnew_; clear hg_ hnew_; (first | rw [← Ny300.out] at ho13 | (simp only [Int.reduceToNat] at ho13; rw [← Ny300.out] at ho13)); have n0_ := Aside0.mk (Kd.V_elder' (by (with_reducible repeat (first | apply Kd.V_alloc | apply Kd.V_drewN | apply Kd.V_drew)); exact HO296.out) (Kd.R_base ho13) hb); have n1_ := Aside0.mk (Kd.V_elder' (by (with_reducible repeat (first | apply Kd.V_alloc | apply Kd.V_drewN | apply Kd.V_drew)); exact HO299.out) (Kd.R_base ho13) hb); have n2_ := Aside0.mk (Kd.R_lower ho13 (below_size zH)); have n3_ := sB hb; revert n0_ n1_ n2_ n3_; clear HO296 HO299 HB; intro HO296 HO299 HO302 HB; clear hb ho13))
 go_loopg [26] k (fun kq v26 w' => ∃ (x7_1 : List Int) (x26_1 : Int), v26 = .int .i64 x26_1 ∧ Aside0 (N1Multiply.l0 kq t297 x7_1 t294 (t294.length : Int) x26_1 = some r) ∧ Aside0 (kq ≤ k) ∧ Aside0 (Kd.V (Kd.int .u32) 86 w' w.heap.size (fun k_ => some k_ ≠ (v301 : Value).ownBlock) (.slice Ao11 t297.length co11) t297) ∧ Aside0 (Kd.R (Kd.int .u32) 86 w' w.heap.size (fun _ => True) v301 x7_1) ∧ Aside0 (Kd.V (Kd.int .u32) 86 w' w.heap.size (fun k_ => some k_ ≠ (v301 : Value).ownBlock) (.slice Ao10 t294.length co10) t294) ∧ Aside0 (Below w.heap.size w w'))
 case atStart => exact ⟨(y300), (0), zq1, H', ⟨Nat.le_refl _⟩, ⟨by (with_reducible repeat (first | apply Kd.V_alloc | apply Kd.V_drewN | apply Kd.V_drew)); exact Kd.V_mono HO299.out (fun _ hk => hk.2)⟩, ⟨by (with_reducible repeat (first | apply Kd.R_alloc | apply Kd.R_drewN | apply Kd.R_drew)); exact HO302.out⟩, ⟨by (with_reducible repeat (first | apply Kd.V_alloc | apply Kd.V_drewN | apply Kd.V_drew)); exact Kd.V_mono HO296.out (fun _ hk => hk.2)⟩, ⟨zH⟩⟩
 case round =>
  clear H'
  obtain ⟨x7_1, x26_1, rfl, HA, HK1, HO_6, HO_7, HO_24, HB⟩ := hrel
  cases gk with
  | zero => exact absurd HA.out (by simp [N1Multiply.l0])
  | succ k1 =>
   have H := HA.out
   clear HA
   simp only [N1Multiply.l0] at H
   by_cases c14 : x26_1 < (t294.length : Int)
   ·rw [if_pos c14] at H
    have c14b0 := decide_eq_true c14
    clear c14
    replace H := iteD H
    obtain ⟨c15b0, H⟩ := H
    replace H := iteD H
    obtain ⟨c16b0, H⟩ := H
    have H' := Aside0.mk H
    clear H
    obtain ⟨ad304, e304, hx304_0, p304, q304⟩ := atI (Kd.V_reads' HO_24.out).2.2 x26_1
    cases e304
    go_wp2
    go_loopg [10, 33] k1 (fun kq v10 v33 w' => ∃ (x7_2 : List Int) (x10_2 : Int) (x33_2 : Int), v10 = .int .u64 x10_2 ∧ v33 = .int .i64 x33_2 ∧ Aside0 (N1Multiply.l1 kq t297 x7_2 x26_1 (rd t294 x26_1) x10_2 t294 (t294.length : Int) x26_1 t297 (t297.length : Int) x33_2 = some r) ∧ Aside0 (kq ≤ k1) ∧ Aside0 (Kd.V (Kd.int .u32) 86 w' w.heap.size (fun k_ => some k_ ≠ (v301 : Value).ownBlock) (.slice Ao11 t297.length co11) t297) ∧ Aside0 (Kd.R (Kd.int .u32) 86 w' w.heap.size (fun _ => True) v301 x7_2) ∧ Aside0 (Kd.V (Kd.int .u32) 86 w' w.heap.size (fun k_ => some k_ ≠ (v301 : Value).ownBlock) (.slice (some ad304) t294.length co10) t294) ∧ Aside0 (Kd.V (Kd.int .u32) 86 w' w.heap.size (fun k_ => some k_ ≠ (v301 : Value).ownBlock) (.slice Ao11 t297.length co11) t297) ∧ Aside0 (Below w.heap.size w w'))
    case atStart => exact ⟨(x7_1), (0), (0), zq1, zq1, H', ⟨Nat.le_refl _⟩, ⟨by (with_reducible repeat (first | apply Kd.V_alloc | apply Kd.V_drewN | apply Kd.V_drew)); exact HO_6.out⟩, ⟨by (with_reducible repeat (first | apply Kd.R_alloc | apply Kd.R_drewN | apply Kd.R_drew)); exact HO_7.out⟩, ⟨by (with_reducible repeat (first | apply Kd.V_alloc | apply Kd.V_drewN | apply Kd.V_drew)); exact HO_24.out⟩, ⟨by (with_reducible repeat (first | apply Kd.V_alloc | apply Kd.V_drewN | apply Kd.V_drew)); exact HO_6.out⟩, ⟨zH⟩⟩
    case round =>
     clear H'
     obtain ⟨x7_2, x10_2, x33_2, rfl, rfl, HA, HK2, HO_6, HO_7, HO_24, HO_31, HB⟩ := hrel
     cases gk with
     | zero => exact absurd HA.out (by simp [N1Multiply.l1])
     | succ k2 =>
      have H := HA.out
      clear HA
      simp only [N1Multiply.l1] at H
      by_cases c17 : x33_2 < (t297.length : Int)
      ·rw [if_pos c17] at H
       have c17b0 := decide_eq_true c17
       clear c17
       replace H := iteD H
       obtain ⟨c18b0, H⟩ := H
       replace H := iteD H
       obtain ⟨c19b0, H⟩ := H
       obtain ⟨ji20, hji20, hji20w⟩ := jI (x26_1 + x33_2)
       first | rw [hji20] at H | simp only [hji20] at H
       replace H := iteD H
       obtain ⟨c21b0, H⟩ := H
       replace H := iteD H
       obtain ⟨c22b0, H⟩ := H
       obtain ⟨y307, hy307⟩ : ∃ y_ : List Int, y_ = (x7_2.set ((ji20) : Int).toNat ((IntKind.u64.wrap ((IntKind.u64.wrap ((IntKind.u64.wrap ((IntKind.u64.wrap ((rd t294 x26_1))) * (IntKind.u64.wrap (rd t297 x33_2)))) + (IntKind.u64.wrap (rd x7_2 (ji20))))) + x10_2)) % 4294967296)) := ⟨_, rfl⟩
       (try rw [Option.bind_some] at H); (try rw [← hy307] at H)
       have Ny307 := Aside0.mk hy307
       clear hy307
       have H' := Aside0.mk H
       clear H
       obtain ⟨ad305, e305, hx305_0, p305, q305⟩ := atI (Kd.V_reads' HO_31.out).2.2 x33_2
       cases e305
       obtain ⟨Ao24, co24, eo24⟩ := Kd.R_slice HO_7.out
       subst eo24
       obtain ⟨ad306, e306, hx306_0, p306, q306⟩ := atI (Kd.R_reads' HO_7.out).2.2 (ji20)
       cases e306
       have p23 : 0 ≤ ((ji20) : Int) := of_decide_eq_true zq0
       have q23 : ((ji20) : Int) < ((x7_2.length : Int) : Int) := of_decide_eq_true zq0
       obtain ⟨go23, co23, eo23, gb23, gl23, cl23, HG23⟩ := Kd.R_form HO_7.out (by omega)
       (first | cases eo23 | (injection eo23 with ea_ en_ ec_; (first | subst ea_ | (injection ea_ with ea_; subst ea_)); subst ec_; clear en_))
       have GB23 := Aside0.mk gb23
       have GG23 := Aside0.mk HG23
       clear gb23 gl23 HG23
       (first | simp only [add_plain] at hx306_0 | skip)
       obtain ⟨hx23_0, hf23_0⟩ := Kd.R_celln 0 HO_7.out ((ji20) : Int) p23 q23
       (try simp only [Go.IntWalk.toNatUp] at hx23_0 hf23_0)
       replace p23 := eq_true p23
       replace q23 := eq_true q23
       have HP25 := Kd.R_putg HO_7.out ((ji20) : Int) ((IntKind.u64.wrap ((IntKind.u64.wrap ((IntKind.u64.wrap ((IntKind.u64.wrap ((rd t294 x26_1))) * (IntKind.u64.wrap (rd t297 x33_2)))) + (IntKind.u64.wrap (rd x7_2 (ji20))))) + x10_2)) % 4294967296)
       go_wp2_with (first | ((with_reducible refine gate_store (t := 86) (p := 59) rfl ?_); refine store_event (t := 86) (p := 59) (v := ?vo_w26) (w1 := (wr.setCell ⟨go23, ((ji20) : Int).toNat, none⟩ (.int .u32 ((IntKind.u64.wrap ((IntKind.u64.wrap ((IntKind.u64.wrap ((IntKind.u64.wrap ((rd t294 x26_1))) * (IntKind.u64.wrap (rd t297 x33_2)))) + (IntKind.u64.wrap (rd x7_2 (ji20))))) + x10_2)) % 4294967296)))) ?hg ?ho ?hn ?hr ?_; (case ho => rfl); (case hg => rfl); (case hn => rfl); (case hr => first | (go_simp; done) | (go_simp; rfl)); intro w26 hw; have hg : wr.grownBy w26 (some go23) := (by rw [hw]; exact HP25.2); have hp_ : Kd.R (Kd.int .u32) 86 w26 w.heap.size (fun _ => True) (.slice (some ⟨go23, 0, none⟩) x7_2.length co24) y307 := (by rw [hw, Ny307.out]; exact HP25.1); clear HP25; have n0_ := Aside0.mk (Kd.V_afterv (v := (.slice (some ⟨go23, 0, none⟩) x7_2.length co24)) (v1 := (.slice (some ⟨go23, 0, none⟩) x7_2.length co24)) (ok := (fun _ => True)) zq19 hg (.inl rfl)); have n1_ := Aside0.mk (hp_); have n2_ := Aside0.mk (Kd.V_afterv (v := (.slice (some ⟨go23, 0, none⟩) x7_2.length co24)) (v1 := (.slice (some ⟨go23, 0, none⟩) x7_2.length co24)) (ok := (fun _ => True)) (by (with_reducible repeat (first | apply Kd.V_alloc | apply Kd.V_drewN | apply Kd.V_drew)); exact Kd.V_mono HO_24.out (fun _ hk => ⟨trivial, hk⟩)) hg (.inl rfl)); have n3_ := Aside0.mk (Kd.V_afterv (v := (.slice (some ⟨go23, 0, none⟩) x7_2.length co24)) (v1 := (.slice (some ⟨go23, 0, none⟩) x7_2.length co24)) (ok := (fun _ => True)) (by (with_reducible repeat (first | apply Kd.V_alloc | apply Kd.V_drewN | apply Kd.V_drew)); exact Kd.V_mono HO_31.out (fun _ hk => ⟨trivial, hk⟩)) hg (.inl rfl)); have n4_ := Aside0.mk ((by rw [hw]; exact below_set (HB.out) GB23.out : Below w.heap.size w w26)); revert n0_ n1_ n2_ n3_ n4_; clear HO_6 HO_7 HO_24 HO_31 HB; intro HO_6 HO_7 HO_24 HO_31 HB; clear hg hw hp_))
       go_roundg k2
       case measure => have := HK1.out; have := HK2.out; omega
       case rel => exact ⟨(y307), ((IntKind.u64.wrap ((IntKind.u64.wrap ((IntKind.u64.wrap ((IntKind.u64.wrap ((rd t294 x26_1))) * (IntKind.u64.wrap (rd t297 x33_2)))) + (IntKind.u64.wrap (rd x7_2 (ji20))))) + x10_2)) / 4294967296), (wrap64 (x33_2 + 1)), (by first | rfl | (simp; done) | (simp only [← hji20] <;> (first | rfl | simp)) | (simp [*]; done)), zq1, H', ⟨by have := HK1.out; have := HK2.out; omega⟩, ⟨by (with_reducible repeat (first | apply Kd.V_alloc | apply Kd.V_drewN | apply Kd.V_drew)); exact Kd.V_mono HO_6.out (fun _ hk => hk.2)⟩, ⟨by (with_reducible repeat (first | apply Kd.R_alloc | apply Kd.R_drewN | apply Kd.R_drew)); exact HO_7.out⟩, ⟨by (with_reducible repeat (first | apply Kd.V_alloc | apply Kd.V_drewN | apply Kd.V_drew)); exact Kd.V_mono HO_24.out (fun _ hk => hk.2)⟩, ⟨by (with_reducible repeat (first | apply Kd.V_alloc | apply Kd.V_drewN | apply Kd.V_drew)); exact Kd.V_mono HO_31.out (fun _ hk => hk.2)⟩, ⟨zH⟩⟩
      ·rw [if_neg c17] at H
       have c17b0 := decide_eq_false c17
       clear c17
       obtain ⟨ji27, hji27, hji27w⟩ := jI (x26_1 + (t297.length : Int))
       first | rw [hji27] at H | simp only [hji27] at H
       replace H := iteD H
       obtain ⟨c28b0, H⟩ := H
       replace H := iteD H
       obtain ⟨c29b0, H⟩ := H
       obtain ⟨y308, hy308⟩ : ∃ y_ : List Int, y_ = (x7_2.set ((ji27) : Int).toNat ((x10_2) % 4294967296)) := ⟨_, rfl⟩
       (try rw [Option.bind_some] at H); (try rw [← hy308] at H)
       have Ny308 := Aside0.mk hy308
       clear hy308
       have H' := Aside0.mk H
       clear H
       have p30 : 0 ≤ ((ji27) : Int) := of_decide_eq_true zq0
       have q30 : ((ji27) : Int) < ((x7_2.length : Int) : Int) := of_decide_eq_true zq0
       obtain ⟨go30, co30, eo30, gb30, gl30, cl30, HG30⟩ := Kd.R_form HO_7.out (by omega)
       (first | cases eo30 | (injection eo30 with ea_ en_ ec_; (first | subst ea_ | (injection ea_ with ea_; subst ea_)); subst ec_; clear en_))
       have GB30 := Aside0.mk gb30
       have GG30 := Aside0.mk HG30
       clear gb30 gl30 HG30
       obtain ⟨hx30_0, hf30_0⟩ := Kd.R_celln 0 HO_7.out ((ji27) : Int) p30 q30
       (try simp only [Go.IntWalk.toNatUp] at hx30_0 hf30_0)
       replace p30 := eq_true p30
       replace q30 := eq_true q30
       have HP31 := Kd.R_putg HO_7.out ((ji27) : Int) ((x10_2) % 4294967296)
       go_wp2_with (first | ((with_reducible refine gate_store (t := 86) (p := 70) rfl ?_); refine store_event (t := 86) (p := 70) (v := ?vo_w32) (w1 := (wr.setCell ⟨go30, ((ji27) : Int).toNat, none⟩ (.int .u32 ((x10_2) % 4294967296)))) ?hg ?ho ?hn ?hr ?_; (case ho => rfl); (case hg => rfl); (case hn => rfl); (case hr => first | (go_simp; done) | (go_simp; rfl)); intro w32 hw; have hg : wr.grownBy w32 (some go30) := (by rw [hw]; exact HP31.2); have hp_ : Kd.R (Kd.int .u32) 86 w32 w.heap.size (fun _ => True) (.slice (some ⟨go30, 0, none⟩) x7_2.length co30) y308 := (by rw [hw, Ny308.out]; exact HP31.1); clear HP31; have n0_ := Aside0.mk (Kd.V_afterv (v := (.slice (some ⟨go30, 0, none⟩) x7_2.length co30)) (v1 := (.slice (some ⟨go30, 0, none⟩) x7_2.length co30)) (ok := (fun _ => True)) zq19 hg (.inl rfl)); have n1_ := Aside0.mk (hp_); have n2_ := Aside0.mk (Kd.V_afterv (v := (.slice (some ⟨go30, 0, none⟩) x7_2.length co30)) (v1 := (.slice (some ⟨go30, 0, none⟩) x7_2.length co30)) (ok := (fun _ => True)) (by (with_reducible repeat (first | apply Kd.V_alloc | apply Kd.V_drewN | apply Kd.V_drew)); exact Kd.V_mono HO_24.out (fun _ hk => ⟨trivial, hk⟩)) hg (.inl rfl)); have n3_ := Aside0.mk (Kd.V_afterv (v := (.slice (some ⟨go30, 0, none⟩) x7_2.length co30)) (v1 := (.slice (some ⟨go30, 0, none⟩) x7_2.length co30)) (ok := (fun _ => True)) (by (with_reducible repeat (first | apply Kd.V_alloc | apply Kd.V_drewN | apply Kd.V_drew)); exact Kd.V_mono HO_31.out (fun _ hk => ⟨trivial, hk⟩)) hg (.inl rfl)); have n4_ := Aside0.mk ((by rw [hw]; exact below_set (HB.out) GB30.out : Below w.heap.size w w32)); revert n0_ n1_ n2_ n3_ n4_; clear HO_6 HO_7 HO_24 HO_31 HB; intro HO_6 HO_7 HO_24 HO_31 HB; clear hg hw hp_))
       go_roundg k2
       case measure => have := HK1.out; have := HK2.out; omega
       case rel => exact ⟨(y308), (wrap64 (x26_1 + 1)), zq1, H', ⟨by have := HK1.out; have := HK2.out; omega⟩, ⟨by (with_reducible repeat (first | apply Kd.V_alloc | apply Kd.V_drewN | apply Kd.V_drew)); exact Kd.V_mono HO_6.out (fun _ hk => hk.2)⟩, ⟨by (with_reducible repeat (first | apply Kd.R_alloc | apply Kd.R_drewN | apply Kd.R_drew)); exact HO_7.out⟩, ⟨by (with_reducible repeat (first | apply Kd.V_alloc | apply Kd.V_drewN | apply Kd.V_drew)); exact Kd.V_mono HO_24.out (fun _ hk => hk.2)⟩, ⟨zH⟩⟩
   ·rw [if_neg c14] at H
    have c14b0 := decide_eq_false c14
    clear c14
    replace H := bS H
    obtain ⟨t303, A33, H⟩ := H
    obtain rfl := Option.some.inj H
    obtain ⟨Ao34, co34, eo34⟩ := Kd.R_slice HO_7.out
    subst eo34
    go_wp2_with (first | (refine goesLA 73 Tryd.func67 #[.slice Ao34 x7_1.length co34] ?_; (with_reducible refine (N1limbs_text.calls k1 _ _ x7_1 t303 _ ?side1 ?side2 A33.out).mono ?_); (case side1 => exact sC (Kd.R_reads' HO_7.out).2.2); (case side2 => exact (Kd.R_reads' HO_7.out).2.1); rintro e w35 ⟨rfl, hb⟩; refine ⟨_, rfl, ?_⟩; have n0_ := Aside0.mk (Kd.V_below zq12 hb); have n1_ := Aside0.mk (Kd.R_below zq26 hb); have n2_ := Aside0.mk (Kd.V_below (by (with_reducible repeat (first | apply Kd.V_alloc | apply Kd.V_drewN | apply Kd.V_drew)); exact HO_24.out) hb); have n3_ := sB hb; revert n0_ n1_ n2_ n3_; clear HO_6 HO_7 HO_24 HB; intro HO_6 HO_7 HO_24 HB; (try clear hb); (try clear hb2); (try clear hk); (try clear hi)))
    go_ret
    exact ⟨by first | rfl | (simp [errW_none, errW_some] <;> rfl) | (simp only [← hji5]; first | rfl | (simp [errW_none, errW_some] <;> rfl)) | (simp [*, errW_none, errW_some] <;> rfl), zH⟩
def R1Normalize.l0 : Nat → ByteArray → Int → Option (ByteArray)
 | 0, _, _ => none
 | k + 1, x0, x3 => if x3 < (x0.size : Int) then (if 0 ≤ x3 then (if (bt x0 x3) = 0 then (R1Normalize.l0 k x0 (wrap64 (x3 + 1))) else (if x3 ≤ (x0.size : Int) then (some (x0.extract (x3 : Int).toNat x0.size)) else (none))) else (none)) else (if 0 ≤ x3 then (if x3 ≤ (x0.size : Int) then (some (x0.extract (x3 : Int).toNat x0.size)) else (none)) else (none))
def R1Normalize.f (k : Nat) (a0 : ByteArray) : Option (ByteArray) := R1Normalize.l0 k a0 0
set_option maxHeartbeats 8000000 in
set_option maxRecDepth 100000 in
theorem R1Normalize.calls (k : Nat) (a0 : ByteArray) (r : ByteArray) (w : World) (h : R1Normalize.f k a0 = some r) :
 Calls Tryd.prog 79 #[.string a0] w fun e w' => e = .returned (.string r) ∧ Drawn0 w w' := by
 have H : (R1Normalize.l0 k a0 0) = some r := h
 clear h
 have H' := Aside0.mk H
 clear H
 go_enter Tryd.func79, Tryd.ntmps79
 go_wp2
 go_loopg [3] k (fun kq v3 w' => ∃ (x3_1 : Int), v3 = .int .i64 x3_1 ∧ Aside0 (R1Normalize.l0 kq a0 x3_1 = some r) ∧ Aside0 (kq ≤ k) ∧ Drawn0 w w')
 case atStart => exact ⟨(0), zq1, H', ⟨Nat.le_refl _⟩, by repeat (first | exact Drawn0.refl _ | apply Drawn0.step)⟩
 case round =>
  clear H'
  obtain ⟨x3_1, rfl, HA, HK1, ⟨m1, rfl⟩⟩ := hrel
  cases gk with
  | zero => exact absurd HA.out (by simp [R1Normalize.l0])
  | succ k1 =>
   have H := HA.out
   clear HA
   simp only [R1Normalize.l0] at H
   by_cases c2 : x3_1 < (a0.size : Int)
   ·rw [if_pos c2] at H
    have c2b0 := decide_eq_true c2
    clear c2
    replace H := iteD H
    obtain ⟨c3b0, H⟩ := H
    by_cases c5 : (bt a0 x3_1) = 0
    ·rw [if_pos c5] at H
     have c5b0 := beq_iff_eq.mpr c5
     have c5b1 : ((bt a0 x3_1) != 0) = false := bne_eq_false_iff_eq.mpr c5
     clear c5
     have H' := Aside0.mk H
     clear H
     have p4 : 0 ≤ (x3_1 : Int) := of_decide_eq_true zq0
     have q4 : x3_1 < (a0.size : Int) := of_decide_eq_true zq0
     have hx4 := bt_at a0 x3_1
     replace p4 := eq_true p4
     replace q4 := eq_true q4
     go_wp2
     go_roundg k1
     case measure => have := HK1.out; omega
     case rel => exact ⟨(wrap64 (x3_1 + 1)), zq1, H', ⟨by have := HK1.out; omega⟩, by repeat (first | exact Drawn0.refl _ | apply Drawn0.step)⟩
    ·rw [if_neg c5] at H
     have c5b0 := beq_eq_false_iff_ne.mpr c5
     have c5b1 := bne_iff_ne.mpr c5
     have c6b0 := eq_true (of_decide_eq_true zq0 : 0 ≤ x3_1)
     replace H := iteE H
     obtain ⟨c7b0, c7b1, H⟩ := H
     obtain rfl := Option.some.inj H
     have p4 : 0 ≤ (x3_1 : Int) := of_decide_eq_true zq0
     have q4 : x3_1 < (a0.size : Int) := of_decide_eq_true zq0
     have hx4 := bt_at a0 x3_1
     replace p4 := eq_true p4
     replace q4 := eq_true q4
     go_wp2
     go_ret
     exact ⟨by first | rfl | (simp; done) | (simp [*]; done), by repeat (first | exact Drawn0.refl _ | apply Drawn0.step)⟩
   ·rw [if_neg c2] at H
    have c2b0 := decide_eq_false c2
    clear c2
    replace H := iteE H
    obtain ⟨c8b0, c8b1, H⟩ := H
    replace H := iteE H
    obtain ⟨c9b0, c9b1, H⟩ := H
    obtain rfl := Option.some.inj H
    go_wp2
    go_ret
    exact ⟨by first | rfl | (simp; done) | (simp [*]; done), by repeat (first | exact Drawn0.refl _ | apply Drawn0.step)⟩
end Go.Proofs.YtggfilmdfpmbmaaDoor.QN
end
section
namespace Go.Proofs.YtggfilmdfpmbmaaDoor.QN
open Go.RowKit Go.Proofs.YtggfilmdfpmbmaaDoorW.PrintWords Go.Proofs.YtggfilmdfpmbmaaDoorW.PrintLast Go.Proofs.YtggfilmdfpmbmaaDoorW.PrintMore
attribute [local go_sem] max2_int min2_int max_two min_two max_three min_three max_four min_four   -- for this text's walks alone
set_option linter.unusedVariables false
set_option linter.unusedSimpArgs false
def R1limbs.l0 : Nat → ByteArray → List Int → Int → Option (List Int)
 | 0, _, _, _ => none
 | k + 1, x0, x3, x4 => if x4 < (x0.size : Int) then (if 0 ≤ (wrap64 (Int.tdiv x4 4)) then (if (wrap64 (Int.tdiv x4 4)) < (x3.length : Int) then (if 0 ≤ (wrap64 ((wrap64 ((x0.size : Int) - 1)) - x4)) then (if (wrap64 ((wrap64 ((x0.size : Int) - 1)) - x4)) < (x0.size : Int) then (if 0 ≤ (IntKind.u64.wrap (wrap64 (8 * (Int.tmod x4 4)))) then (if (IntKind.u64.wrap (wrap64 (8 * (Int.tmod x4 4)))) ≤ 32 then (R1limbs.l0 k x0 (x3.set ((wrap64 (Int.tdiv x4 4)) : Int).toNat (Go.bits .or .u32 (rd x3 (wrap64 (Int.tdiv x4 4))) ((((bt x0 (wrap64 ((wrap64 ((x0.size : Int) - 1)) - x4))) % 4294967296) * 2 ^ (IntKind.u64.wrap (wrap64 (8 * (Int.tmod x4 4)))).toNat) % 4294967296))) (wrap64 (x4 + 1))) else (none)) else (none)) else (none)) else (none)) else (none)) else (none)) else (some x3)
def R1limbs.f (k : Nat) (a0 : ByteArray) : Option (List Int) := (R1Normalize.f k a0).bind fun t313 => (if 0 ≤ (wrap64 (Int.tdiv (wrap64 ((t313.size : Int) + 3)) 4)) then (if (wrap64 (Int.tdiv (wrap64 ((t313.size : Int) + 3)) 4) : Int).toNat ≤ 70368744177664 then (R1limbs.l0 k t313 (List.replicate (wrap64 (Int.tdiv (wrap64 ((t313.size : Int) + 3)) 4) : Int).toNat 0) 0) else (none)) else (none))
def R1limbs.T6 : Bool × List (List Nat × List Nat) := (true, [([], []), ([], []), ([1], [1]), ([], []), ([], []), ([4], [4]), ([3, 5], [3, 5]), ([6], [6]), ([], []), ([], []), ([9], [9]), ([10], [10]), ([], []), ([11, 12], [11, 12]), ([8, 13], [8, 13]), ([14], [14]), ([], []), ([16], [16]), ([17], [17]), ([18], [18]), ([15, 19], [15, 19]), ([7, 20], [7, 20]), ([0, 2, 0, 1, 2, 3, 4, 5, 6, 7, 8, 9, 10, 11, 12, 13, 14, 15, 16, 17, 18, 19, 20, 21], [0, 2]), ([22, 21, 0, 1, 2, 3, 4, 5, 6, 7, 8, 9, 10, 11, 12, 13, 14, 15, 16, 17, 18, 19, 20, 21], [21, 22])])
def R1limbs.B6 : List Nat := [0, 0, 2, 0, 0, 16, 56, 120, 0, 0, 512, 1536, 0, 7680, 16128, 32512, 0, 65536, 196608, 458752, 1048320, 2097144, 4194303, 8388607]
theorem R1limbs.tab6 : rtab .any (opsOf Tryd.f56 6) = R1limbs.T6 := by kernel_rfl
theorem R1limbs.bits6 : waitsOk R1limbs.T6.2 R1limbs.B6 = true := by kernel_rfl
set_option maxHeartbeats 8000000 in
set_option maxRecDepth 100000 in
theorem R1limbs.calls (k : Nat) (a0 : ByteArray) (r : List Int) (w : World) (h : R1limbs.f k a0 = some r) :
 Calls Tryd.prog 56 #[.string a0] w fun e w' => ∃ v0_ : Value, e = .returned (v0_) ∧ Kd.R (Kd.int .u32) 86 w' w.heap.size (fun _ => True) v0_ r ∧ Below w.heap.size w w' := by
 have HB := Aside0.mk (Below.refl w.heap.size w)
 have H : ((R1Normalize.f k a0).bind fun t313 => (if 0 ≤ (wrap64 (Int.tdiv (wrap64 ((t313.size : Int) + 3)) 4)) then (if (wrap64 (Int.tdiv (wrap64 ((t313.size : Int) + 3)) 4) : Int).toNat ≤ 70368744177664 then (R1limbs.l0 k t313 (List.replicate (wrap64 (Int.tdiv (wrap64 ((t313.size : Int) + 3)) 4) : Int).toNat 0) 0) else (none)) else (none))) = some r := h
 clear h
 replace H := bS H
 obtain ⟨t313, A2, H⟩ := H
 obtain ⟨ji3, hji3, hji3w⟩ := jI (Int.tdiv (wrap64 ((t313.size : Int) + 3)) 4)
 first | rw [hji3] at H | simp only [hji3] at H
 (try rw [hji3] at A2)
 replace H := iteE H
 obtain ⟨c4b0, c4b1, H⟩ := H
 replace H := iteE H
 obtain ⟨c5b0, c5b1, H⟩ := H
 obtain ⟨y314, hy314⟩ : ∃ y_ : List Int, y_ = (List.replicate (ji3 : Int).toNat 0) := ⟨_, rfl⟩
 (try rw [Option.bind_some] at H); (try rw [← hy314] at H)
 have Ny314 := Aside0.mk hy314
 clear hy314
 have H' := Aside0.mk H
 clear H
 go_enter Tryd.func56, Tryd.ntmps56
 go_wp2_with (first | (refine goesLA 6 Tryd.func79 #[.string a0] ?_; (with_reducible refine (R1Normalize.calls k a0 t313 _ A2.out).mono ?_); rintro e w' ⟨rfl, ⟨nd, rfl⟩⟩; refine ⟨_, rfl, ?_⟩) | ((with_reducible refine gate_dst (N := 11) rfl ?_); refine Kd.R_make (Kd.int .u32) _ 86 rfl (N := 11) rfl 74 _ _ rfl ji3 rfl rfl Tryd.underlying74 (.int .u32 0) 4 info86 rfl (by decide) (by omega) 0 (ok := fun _ => True) (okp := fun _ => True) rfl (fun _ hk => hk) trivial (of_decide_eq_true zq0) (Nat.le_trans (Nat.mul_le_mul_right _ (of_decide_eq_true zq0 : ji3.toNat ≤ 70368744177664)) (by omega)) (Below.refl _ _) (Nat.le_refl _) ?_; intro v315 w6 ho7 hb hg_ hnew_; clear hg_ hnew_; (first | rw [← Ny314.out] at ho7 | (simp only [Int.reduceToNat] at ho7; rw [← Ny314.out] at ho7)); have n0_ := Aside0.mk (Kd.R_lower ho7 (below_size zH)); have n1_ := sB hb; revert n0_ n1_; clear HB; intro HO316 HB; clear hb ho7))
 go_loopg [4] k (fun kq v4 w' => ∃ (x3_1 : List Int) (x4_1 : Int), v4 = .int .i64 x4_1 ∧ Aside0 (R1limbs.l0 kq t313 x3_1 x4_1 = some r) ∧ Aside0 (kq ≤ k) ∧ Aside0 (Kd.R (Kd.int .u32) 86 w' w.heap.size (fun _ => True) v315 x3_1) ∧ Aside0 (Below w.heap.size w w'))
 case atStart => exact ⟨(y314), (0), zq1, H', ⟨Nat.le_refl _⟩, ⟨by (with_reducible repeat (first | apply Kd.R_alloc | apply Kd.R_drewN | apply Kd.R_drew)); exact HO316.out⟩, ⟨zH⟩⟩
 case round =>
  clear H'
  obtain ⟨x3_1, x4_1, rfl, HA, HK1, HO_3, HB⟩ := hrel
  cases gk with
  | zero => exact absurd HA.out (by simp [R1limbs.l0])
  | succ k1 =>
   have H := HA.out
   clear HA
   simp only [R1limbs.l0] at H
   by_cases c8 : x4_1 < (t313.size : Int)
   ·rw [if_pos c8] at H
    have c8b0 := decide_eq_true c8
    clear c8
    obtain ⟨ji9, hji9, hji9w⟩ := jI (Int.tdiv x4_1 4)
    first | rw [hji9] at H | simp only [hji9] at H
    replace H := iteD H
    obtain ⟨c10b0, H⟩ := H
    replace H := iteD H
    obtain ⟨c11b0, H⟩ := H
    obtain ⟨ji12, hji12, hji12w⟩ := jI ((wrap64 ((t313.size : Int) - 1)) - x4_1)
    first | rw [hji12] at H | simp only [hji12] at H
    replace H := iteD H
    obtain ⟨c13b0, H⟩ := H
    replace H := iteD H
    obtain ⟨c14b0, H⟩ := H
    obtain ⟨ji16, hji16⟩ : ∃ j_ : Int, (IntKind.u64.wrap (wrap64 (8 * (Int.tmod x4_1 4)))) = j_ := ⟨_, rfl⟩
    first | rw [hji16] at H | simp only [hji16] at H
    replace H := iteE H
    obtain ⟨c17b0, c17b1, H⟩ := H
    replace H := iteE H
    obtain ⟨c18b0, c18b1, H⟩ := H
    obtain ⟨y318, hy318⟩ : ∃ y_ : List Int, y_ = (x3_1.set ((ji9) : Int).toNat (Go.bits .or .u32 (rd x3_1 (ji9)) ((((bt t313 (ji12)) % 4294967296) * 2 ^ (ji16).toNat) % 4294967296))) := ⟨_, rfl⟩
    (try rw [Option.bind_some] at H); (try rw [← hy318] at H)
    have Ny318 := Aside0.mk hy318
    clear hy318
    have H' := Aside0.mk H
    clear H
    try go_wp2
    have n0_ := Aside0.mk (Kd.R_drew HO_3.out)
    have n1_ := Aside0.mk (below_drew1 HB.out)
    revert n0_ n1_
    clear HO_3 HB
    intro HO_3 HB
    obtain ⟨Ao21, co21, eo21⟩ := Kd.R_slice HO_3.out
    (first | subst eo21 | (injection eo21 with f1_ f2_ f3_; have f4_ := f1_.symm; have f5_ := f3_.symm; clear f1_ f2_ f3_; subst f4_; subst f5_))
    obtain ⟨ad317, e317, hx317_0, p317, q317⟩ := atI (Kd.R_reads' HO_3.out).2.2 (ji9)
    cases e317
    have p15 : 0 ≤ ((ji12) : Int) := of_decide_eq_true zq0
    have q15 : (ji12) < (t313.size : Int) := of_decide_eq_true zq0
    have hx15 := bt_at t313 (ji12)
    replace p15 := eq_true p15
    replace q15 := eq_true q15
    have p19 : 0 ≤ ((ji9) : Int) := of_decide_eq_true zq0
    have q19 : ((ji9) : Int) < ((x3_1.length : Int) : Int) := of_decide_eq_true zq0
    obtain ⟨go19, co19, eo19, gb19, gl19, cl19, HG19⟩ := Kd.R_form HO_3.out (by omega)
    (first | cases eo19 | (injection eo19 with ea_ en_ ec_; (first | subst ea_ | (injection ea_ with ea_; subst ea_)); subst ec_; clear en_))
    have GB19 := Aside0.mk gb19
    have GG19 := Aside0.mk HG19
    clear gb19 gl19 HG19
    (first | simp only [add_plain] at hx317_0 | skip)
    obtain ⟨hx19_0, hf19_0⟩ := Kd.R_celln 0 HO_3.out ((ji9) : Int) p19 q19
    (try simp only [Go.IntWalk.toNatUp] at hx19_0 hf19_0)
    replace p19 := eq_true p19
    replace q19 := eq_true q19
    have HP22 := Kd.R_putn HO_3.out ((ji9) : Int) (Go.bits .or .u32 (rd x3_1 (ji9)) ((((bt t313 (ji12)) % 4294967296) * 2 ^ (ji16).toNat) % 4294967296))
    rw [← Ny318.out] at HP22
    have HQ22 := Aside0.mk HP22
    clear HP22
    refine start_ (n := 24) (S := fun w' => w'.cell? ⟨go19, ((ji9)).toNat, none⟩ = some (.int .u32 (rd x3_1 (ji9)))) (ds := [23]) #[false, false, false, false, false, false, false, false, false, false, false, false, false, false, false, false, false, false, false, false, false, false, false, false] (by kernel_rfl) rfl rfl (hx317_0) (fun hHeld => ?_); refine with_tabW R1limbs.tab6 R1limbs.bits6 (fun HT_ HW_ => ?_)
    generalize wr.drew = w20 at HO_3 HB GG19 HQ22 hf19_0 hx19_0 hx317_0 hHeld ⊢
    refine pureA 0 18 (lB 24 1) rfl rfl ?_
    refine pureA 1 19 (lB 24 3) rfl rfl ?_
    refine pureA 2 20 (lB 24 7) rfl rfl ?_
    refine pureA 3 21 (lB 24 15) rfl rfl ?_
    refine pureA 4 22 (lB 24 31) rfl rfl ?_
    refine pureA 5 23 (lB 24 63) rfl rfl ?_
    refine pureA 6 24 (lB 24 127) rfl rfl ?_
    refine pureA 8 26 (lB 24 383) rfl rfl ?_
    refine pureA 9 27 (lB 24 895) rfl rfl ?_
    refine pureA 10 28 (lB 24 1919) rfl rfl ?_
    refine pureA 11 29 (lB 24 3967) rfl rfl ?_
    refine pureA 12 30 (lB 24 8063) rfl rfl ?_
    refine pureA 13 31 (lB 24 16255) rfl rfl ?_
    refine pureA 16 34 (lB 24 81791) rfl rfl ?_
    refine pureA 17 35 (lB 24 212863) rfl rfl ?_
    refine pureA 18 36 (lB 24 475007) rfl rfl ?_
    refine pureA 19 37 (lB 24 999295) rfl rfl ?_
    refine take_ (i := 7) (N := some 25) (v := ?_) (a' := ?_) #[true, true, true, true, true, true, true, true, true, true, true, true, true, true, false, false, true, true, true, true, false, false, false, false] rfl rfl (take_ofW HT_.out HW_.out (by kernel_rfl)) (fun _ _ _ h => h) (Or.inl ⟨by rfl, ?_⟩) hHeld ?_ ?_
    rotate_left
    ·intro w' s0
     go_simp
     with_reducible rfl
    rotate_left
    ·simp only [Act.put, List.setIfInBounds_toArray, List.set_cons_zero, List.set_cons_succ, i64_w, i32_w]
     rfl
    refine take_ (i := 14) (N := some 32) (v := ?_) (a' := ?_) #[true, true, true, true, true, true, true, true, true, true, true, true, true, true, true, false, true, true, true, true, false, false, false, false] rfl rfl (take_ofW HT_.out HW_.out (by kernel_rfl)) (fun _ _ _ h => h) (Or.inl ⟨by rfl, ?_⟩) hHeld ?_ ?_
    rotate_left
    ·intro w' s0
     go_simp
     with_reducible rfl
    rotate_left
    ·simp only [Act.put, List.setIfInBounds_toArray, List.set_cons_zero, List.set_cons_succ, i64_w, i32_w]
     rfl
    refine pureA 15 33 (lB 24 1048575) rfl rfl ?_
    refine pureA 20 38 (lB 24 2097151) rfl rfl ?_
    refine pureA 21 39 (lB 24 4194303) rfl rfl ?_
    refine pureA 22 40 (lB 24 8388607) rfl rfl ?_
    refine last_ (i := 23) (N := none) (lB 24 16777215) rfl rfl (one_of HT_.out (by kernel_rfl)) (by decide) (fun K hK => ?_)
    refine skip_ (w1 := ?_) (by rfl) rfl ?_ ?_
    rotate_left
    ·go_simp
     rfl
    refine hK.out _ _ ?_
    clear hK K
    refine done_ (done_of HT_.out (by kernel_rfl)) ?_
    try go_wp2
    go_roundg k1
    case measure => have := HK1.out; omega
    case rel => exact ⟨(y318), (wrap64 (x4_1 + 1)), zq1, H', ⟨by have := HK1.out; omega⟩, ⟨by (with_reducible repeat (first | apply Kd.R_alloc | apply Kd.R_drewN | apply Kd.R_drew)); exact HQ22.out⟩, ⟨zH⟩⟩
   ·rw [if_neg c8] at H
    have c8b0 := decide_eq_false c8
    clear c8
    obtain rfl := Option.some.inj H
    go_wp2
    go_ret
    exact ⟨_, by first | rfl | (simp [errW_none, errW_some] <;> rfl) | (simp only [← hji3]; first | rfl | (simp [errW_none, errW_some] <;> rfl)) | (simp [*, errW_none, errW_some] <;> rfl), by (with_reducible repeat (first | apply Kd.R_alloc | apply Kd.R_drewN | apply Kd.R_drew)); exact HO_3.out, zH⟩
def R1strip.l0 : Nat → List Int → Int → Option (List Int)
 | 0, _, _ => none
 | k + 1, x0, x3 => if x3 > 0 then (if 0 ≤ (wrap64 (x3 - 1)) then (if (wrap64 (x3 - 1)) < (x0.length : Int) then (if (rd x0 (wrap64 (x3 - 1))) = 0 then (R1strip.l0 k x0 (wrap64 (x3 - 1))) else (if 0 ≤ x3 then (if x3 ≤ (x0.length : Int) then (some (x0.take (x3 : Int).toNat)) else (none)) else (none))) else (none)) else (none)) else (if 0 ≤ x3 then (if x3 ≤ (x0.length : Int) then (some (x0.take (x3 : Int).toNat)) else (none)) else (none))
def R1strip.f (k : Nat) (l0 : List Int) : Option (List Int) := R1strip.l0 k l0 (l0.length : Int)
set_option maxHeartbeats 8000000 in
set_option maxRecDepth 100000 in
theorem R1strip.calls (k : Nat) (P0_ : Nat → Prop) (A0 : Option Addr) (c0 : Nat) (l0 : List Int) (r : List Int) (w : World) (hs0 : Kd.V (Kd.int .u32) 86 w w.heap.size (fun k_ => P0_ k_) (.slice A0 l0.length c0) l0) (h : R1strip.f k l0 = some r) :
 Calls Tryd.prog 78 #[.slice A0 l0.length c0] w fun e w' => ∃ v0_ : Value, e = .returned (v0_) ∧ Kd.V (Kd.int .u32) 86 w' w.heap.size (fun k_ => (P0_ k_ ∨ w.heap.size ≤ k_)) v0_ r ∧ Below w.heap.size w w' := by
 have HO0 := Aside0.mk (show Kd.V (Kd.int .u32) 86 w w.heap.size (fun k_ => (P0_ k_ ∨ w.heap.size ≤ k_)) (.slice A0 l0.length c0) l0 from Kd.V_mono hs0 (fun k_ hk => .inl hk))
 have HB := Aside0.mk (Below.refl w.heap.size w)
 have H : (R1strip.l0 k l0 (l0.length : Int)) = some r := h
 clear h
 have H' := Aside0.mk H
 clear H
 go_enter Tryd.func78, Tryd.ntmps78
 go_wp2
 go_loopg [3] k (fun kq v3 w' => ∃ (x3_1 : Int), v3 = .int .i64 x3_1 ∧ Aside0 (R1strip.l0 kq l0 x3_1 = some r) ∧ Aside0 (kq ≤ k) ∧ Aside0 (Kd.V (Kd.int .u32) 86 w' w.heap.size (fun k_ => (P0_ k_ ∨ w.heap.size ≤ k_)) (.slice A0 l0.length c0) l0) ∧ Aside0 (Below w.heap.size w w'))
 case atStart => exact ⟨((l0.length : Int)), zq1, H', ⟨Nat.le_refl _⟩, ⟨by (with_reducible repeat (first | apply Kd.V_alloc | apply Kd.V_drewN | apply Kd.V_drew)); exact HO0.out⟩, ⟨zH⟩⟩
 case round =>
  clear H'
  obtain ⟨x3_1, rfl, HA, HK1, HO_0, HB⟩ := hrel
  cases gk with
  | zero => exact absurd HA.out (by simp [R1strip.l0])
  | succ k1 =>
   have H := HA.out
   clear HA
   simp only [R1strip.l0] at H
   by_cases c2 : x3_1 > 0
   ·rw [if_pos c2] at H
    have c2b0 := decide_eq_true c2
    clear c2
    obtain ⟨ji3, hji3, hji3w⟩ := jI (x3_1 - 1)
    first | rw [hji3] at H | simp only [hji3] at H
    replace H := iteD H
    obtain ⟨c4b0, H⟩ := H
    replace H := iteD H
    obtain ⟨c5b0, H⟩ := H
    by_cases c6 : (rd l0 (ji3)) = 0
    ·rw [if_pos c6] at H
     have c6b0 := beq_iff_eq.mpr c6
     have c6b1 : ((rd l0 (ji3)) != 0) = false := bne_eq_false_iff_eq.mpr c6
     clear c6
     have H' := Aside0.mk H
     clear H
     obtain ⟨ad319, e319, hx319_0, p319, q319⟩ := atI (Kd.V_reads' HO_0.out).2.2 (ji3)
     cases e319
     go_wp2
     go_roundg k1
     case measure => have := HK1.out; omega
     case rel => exact ⟨(ji3), (by first | rfl | (simp; done) | (simp only [← hji3] <;> (first | rfl | simp)) | (simp [*]; done)), H', ⟨by have := HK1.out; omega⟩, ⟨by (with_reducible repeat (first | apply Kd.V_alloc | apply Kd.V_drewN | apply Kd.V_drew)); exact HO_0.out⟩, ⟨zH⟩⟩
    ·rw [if_neg c6] at H
     have c6b0 := beq_eq_false_iff_ne.mpr c6
     have c6b1 := bne_iff_ne.mpr c6
     replace H := iteE H
     obtain ⟨c7b0, c7b1, H⟩ := H
     replace H := iteE H
     obtain ⟨c8b0, c8b1, H⟩ := H
     obtain ⟨y320, hy320⟩ : ∃ y_ : List Int, y_ = (l0.take (x3_1 : Int).toNat) := ⟨_, rfl⟩
     (try rw [Option.bind_some] at H); (try rw [← hy320] at H)
     have Ny320 := Aside0.mk hy320
     clear hy320
     obtain rfl := Option.some.inj H
     obtain ⟨ad319, e319, hx319_0, p319, q319⟩ := atI (Kd.V_reads' HO_0.out).2.2 (ji3)
     cases e319
     have q9 : (x3_1 : Int) ≤ ((l0.length : Int) : Int) := of_decide_eq_true zq0
     obtain ⟨i09, hi09, _, hsz9, _⟩ := info_parts info86
     have hroom9 : l0.length ≤ c0 := (Kd.V_reads' HO_0.out).2.1
     have hC9 : Kd.F (Kd.int .u32) _ _ (some ad319) l0.length l0 := (Kd.V_at (base := w.heap.size) HO_0.out).2.2
     have hcut9 := cut_to (P := Tryd.prog) 74 86 .i64 Tryd.underlying74 hi09 (some ad319) l0.length c0 x3_1 (of_decide_eq_true zq0) q9 hroom9
     have hr9 := Kd.F_take (m := (x3_1 : Int).toNat) hC9 (by omega)
     have hy9 : y320.length = (x3_1 : Int).toNat := (by rw [Ny320.out, List.length_take]; omega)
     rw [← Ny320.out] at hr9
     rw [← hy9] at hcut9
     have HO324 := Aside0.mk (show Kd.V (Kd.int .u32) 86 _ w.heap.size _ (.slice (some ad319) y320.length c0) y320 from Kd.V_mk (by omega) hr9)
     have HC324 := Aside0.mk (show y320.length ≤ c0 from by omega)
     clear hr9 hC9 hroom9 hi09 hsz9
     have KY9 := Aside0.mk hy9
     clear hy9
     replace q9 := eq_true q9
     go_wp2
     go_ret
     exact ⟨_, by first | rfl | (simp [errW_none, errW_some] <;> rfl) | (simp only [← hji3]; first | rfl | (simp [errW_none, errW_some] <;> rfl)) | (simp [*, errW_none, errW_some] <;> rfl), by (with_reducible repeat (first | apply Kd.V_alloc | apply Kd.V_drewN | apply Kd.V_drew)); exact HO324.out, zH⟩
   ·rw [if_neg c2] at H
    have c2b0 := decide_eq_false c2
    clear c2
    replace H := iteE H
    obtain ⟨c10b0, c10b1, H⟩ := H
    replace H := iteE H
    obtain ⟨c11b0, c11b1, H⟩ := H
    obtain ⟨y325, hy325⟩ : ∃ y_ : List Int, y_ = (l0.take (x3_1 : Int).toNat) := ⟨_, rfl⟩
    (try rw [Option.bind_some] at H); (try rw [← hy325] at H)
    have Ny325 := Aside0.mk hy325
    clear hy325
    obtain rfl := Option.some.inj H
    have q12 : (x3_1 : Int) ≤ ((l0.length : Int) : Int) := of_decide_eq_true zq0
    obtain ⟨i012, hi012, _, hsz12, _⟩ := info_parts info86
    have hroom12 : l0.length ≤ c0 := (Kd.V_reads' HO_0.out).2.1
    have hC12 : Kd.F (Kd.int .u32) _ _ A0 l0.length l0 := (Kd.V_at (base := w.heap.size) HO_0.out).2.2
    have hcut12 := cut_to (P := Tryd.prog) 74 86 .i64 Tryd.underlying74 hi012 A0 l0.length c0 x3_1 (of_decide_eq_true zq0) q12 hroom12
    have hr12 := Kd.F_take (m := (x3_1 : Int).toNat) hC12 (by omega)
    have hy12 : y325.length = (x3_1 : Int).toNat := (by rw [Ny325.out, List.length_take]; omega)
    rw [← Ny325.out] at hr12
    rw [← hy12] at hcut12
    have HO329 := Aside0.mk (show Kd.V (Kd.int .u32) 86 _ w.heap.size _ (.slice A0 y325.length c0) y325 from Kd.V_mk (by omega) hr12)
    have HC329 := Aside0.mk (show y325.length ≤ c0 from by omega)
    clear hr12 hC12 hroom12 hi012 hsz12
    have KY12 := Aside0.mk hy12
    clear hy12
    replace q12 := eq_true q12
    go_wp2
    go_ret
    exact ⟨_, zE, by (with_reducible repeat (first | apply Kd.V_alloc | apply Kd.V_drewN | apply Kd.V_drew)); exact HO329.out, zH⟩
def R1text.l0 : Nat → List Int → List Int → Int → Option (ByteArray)
 | 0, _, _, _ => none
 | k + 1, x0, x3, x4 => if x4 ≥ 0 then (if 0 ≤ x4 then (if x4 < (x0.length : Int) then ((some (([((rd x0 x4) / 16777216) % 256, ((rd x0 x4) / 65536) % 256, ((rd x0 x4) / 256) % 256, (rd x0 x4) % 256] : List Int) : List Int)).bind fun y337 => (if x3.length + y337.length < 140737488355328 then (R1text.l0 k x0 (x3 ++ y337) (wrap64 (x4 - 1))) else (none))) else (none)) else (none)) else ((R1Normalize.f k (strOfNums x3)).bind fun t343 => (some t343))
def R1text.f (k : Nat) (l0 : List Int) : Option (ByteArray) := (R1strip.f k l0).bind fun t330 => (if 0 ≤ (wrap64 (4 * (t330.length : Int))) then (if (wrap64 (4 * (t330.length : Int)) : Int).toNat ≤ 281474976710656 then (R1text.l0 k t330 (([] : List Int)) (wrap64 ((t330.length : Int) - 1))) else (none)) else (none))
set_option maxHeartbeats 8000000 in
set_option maxRecDepth 100000 in
theorem R1text.calls (k : Nat) (A0 : Option Addr) (c0 : Nat) (l0 : List Int) (r : ByteArray) (w : World) (hr0 : Kd.C (Kd.int .u32) w A0 l0.length l0) (hc0 : l0.length ≤ c0) (h : R1text.f k l0 = some r) :
 Calls Tryd.prog 77 #[.slice A0 l0.length c0] w fun e w' => e = .returned (.string r) ∧ Below w.heap.size w w' := by
 have HR0 := Aside0.mk hr0
 have HC0 := Aside0.mk hc0
 clear hr0 hc0
 have HB := Aside0.mk (Below.refl w.heap.size w)
 have H : ((R1strip.f k l0).bind fun t330 => (if 0 ≤ (wrap64 (4 * (t330.length : Int))) then (if (wrap64 (4 * (t330.length : Int)) : Int).toNat ≤ 281474976710656 then (R1text.l0 k t330 (([] : List Int)) (wrap64 ((t330.length : Int) - 1))) else (none)) else (none))) = some r := h
 clear h
 replace H := bS H
 obtain ⟨t330, A2, H⟩ := H
 obtain ⟨ji3, hji3, hji3w⟩ := jI (4 * (t330.length : Int))
 first | rw [hji3] at H | simp only [hji3] at H
 (try rw [hji3] at A2)
 replace H := iteE H
 obtain ⟨c4b0, c4b1, H⟩ := H
 replace H := iteE H
 obtain ⟨c5b0, c5b1, H⟩ := H
 obtain ⟨y333, hy333⟩ : ∃ y_ : List Int, y_ = (([] : List Int)) := ⟨_, rfl⟩
 (try rw [Option.bind_some] at H); (try rw [← hy333] at H)
 have Ny333 := Aside0.mk hy333
 clear hy333
 have H' := Aside0.mk H
 clear H
 go_enter Tryd.func77, Tryd.ntmps77
 go_wp2_with (first | (refine goesLA 7 Tryd.func78 #[.slice A0 l0.length c0] ?_; (with_reducible refine (R1strip.calls k (fun k_ => k_ < w.heap.size) _ _ l0 t330 _ ?side1 A2.out).mono ?_); (case side1 => exact Kd.V_mk HC0.out (Kd.F_below (Kd.C_F (Kd.heap_int .u32) HR0.out) zH)); rintro e w6 ⟨v331, rfl, ho0, hb⟩; refine ⟨_, rfl, ?_⟩; have n0_ := Aside0.mk (Kd.V_lower (Kd.V_mono (ok' := fun k_ => True) ho0 (fun k_ hk_ => trivial)) (below_size zH)); have n1_ := sB hb; revert n0_ n1_; clear HB; intro HO332 HB; (try clear hb); (try clear hb2); (try clear hk); (try clear hi); (try clear ho0); obtain ⟨Ao7, co7, eo7⟩ := Kd.V_slice HO332.out; subst eo7) | ((with_reducible refine gate_dst (N := 11) rfl ?_); refine Kd.R_makecap (Kd.int .u8) _ 5 rfl (N := 11) rfl 100 _ _ rfl ji3 rfl rfl Tryd.underlying100 (.int .u8 0) 1 info5 rfl (by decide) (by omega) (ok := fun _ => True) (okp := fun _ => True) (fun _ hk => hk) trivial (of_decide_eq_true zq0) (Nat.le_trans (Nat.mul_le_mul_right _ (of_decide_eq_true zq0 : ji3.toNat ≤ 281474976710656)) (by omega)) (Below.refl _ _) (Nat.le_refl _) ?_; intro v334 w8 ho9 hb hg_ hnew_; clear hg_ hnew_; (first | rw [← Ny333.out] at ho9 | (simp only [Int.reduceToNat] at ho9; rw [← Ny333.out] at ho9)); have n0_ := Aside0.mk (Kd.V_elder' (by (with_reducible repeat (first | apply Kd.V_alloc | apply Kd.V_drewN | apply Kd.V_drew)); exact HO332.out) (Kd.R_base ho9) hb); have n1_ := Aside0.mk (Kd.R_lower ho9 (below_size zH)); have n2_ := sB hb; revert n0_ n1_ n2_; clear HO332 HB; intro HO332 HO335 HB; clear hb ho9))
 go_loopg [3, 4] k (fun kq v3 v4 w' => ∃ (x3_1 : List Int) (x4_1 : Int), v4 = .int .i64 x4_1 ∧ Aside0 (R1text.l0 kq t330 x3_1 x4_1 = some r) ∧ Aside0 (kq ≤ k) ∧ Aside0 (Kd.V (Kd.int .u32) 86 w' w.heap.size (fun k_ => some k_ ≠ (v3 : Value).ownBlock) (.slice Ao7 t330.length co7) t330) ∧ Aside0 (Kd.R (Kd.int .u8) 5 w' w.heap.size (fun _ => True) v3 x3_1) ∧ Aside0 (Below w.heap.size w w'))
 case atStart => exact ⟨(y333), (wrap64 ((t330.length : Int) - 1)), zq1, H', ⟨Nat.le_refl _⟩, ⟨by (with_reducible repeat (first | apply Kd.V_alloc | apply Kd.V_drewN | apply Kd.V_drew)); exact Kd.V_mono HO332.out (fun _ hk => hk.2)⟩, ⟨by (with_reducible repeat (first | apply Kd.R_alloc | apply Kd.R_drewN | apply Kd.R_drew)); exact HO335.out⟩, ⟨zH⟩⟩
 case round =>
  clear H'
  obtain ⟨x3_1, x4_1, rfl, HA, HK1, HO_0, HO_3, HB⟩ := hrel
  cases gk with
  | zero => exact absurd HA.out (by simp [R1text.l0])
  | succ k1 =>
   have H := HA.out
   clear HA
   simp only [R1text.l0] at H
   by_cases c10 : x4_1 ≥ 0
   ·rw [if_pos c10] at H
    have c10b0 := decide_eq_true c10
    clear c10
    replace H := iteD H
    obtain ⟨c11b0, H⟩ := H
    replace H := iteD H
    obtain ⟨c12b0, H⟩ := H
    obtain ⟨y337, hy337⟩ : ∃ y_ : List Int, y_ = (([((rd t330 x4_1) / 16777216) % 256, ((rd t330 x4_1) / 65536) % 256, ((rd t330 x4_1) / 256) % 256, (rd t330 x4_1) % 256] : List Int)) := ⟨_, rfl⟩
    (try rw [Option.bind_some] at H); (try rw [← hy337] at H)
    have Ny337 := Aside0.mk hy337
    clear hy337
    replace H := of_ite H
    obtain ⟨c13, H⟩ := H
    have LMc13 := Aside0.mk c13
    clear c13
    obtain ⟨y340, hy340⟩ : ∃ y_ : List Int, y_ = (x3_1 ++ y337) := ⟨_, rfl⟩
    (try rw [Option.bind_some] at H); (try rw [← hy340] at H)
    have Ny340 := Aside0.mk hy340
    clear hy340
    have H' := Aside0.mk H
    clear H
    obtain ⟨ad336, e336, hx336_0, p336, q336⟩ := atI (Kd.V_reads' HO_0.out).2.2 x4_1
    cases e336
    go_wp2_with (first | ((with_reducible refine gate_dst (N := 35) rfl ?_); refine Kd.R_lit (Kd.int .u8) _ 5 ?hg (N := 35) ?hd (xs := ([((rd t330 x4_1) / 16777216) % 256, ((rd t330 x4_1) / 65536) % 256, ((rd t330 x4_1) / 256) % 256, (rd t330 x4_1) % 256] : List Int)) (inner := [.int .u8 (((rd t330 x4_1) / 16777216) % 256), .int .u8 (((rd t330 x4_1) / 65536) % 256), .int .u8 (((rd t330 x4_1) / 256) % 256), .int .u8 ((rd t330 x4_1) % 256)]) (ok := fun _ => True) (okp := fun _ => True) ?hr ?hp (fun _ hk => hk) trivial (Below.refl _ _) (Nat.le_refl _) (by simp) ?_; (case hd => rfl); (case hg => rfl); (case hr => first | (go_simp; done) | (go_simp; rfl)); (case hp => exact (Reps.one (show Kd.M (Kd.int .u8) _ _ _ (((rd t330 x4_1) / 16777216) % 256) [.int .u8 (((rd t330 x4_1) / 16777216) % 256)] from rfl) (Reps.one (show Kd.M (Kd.int .u8) _ _ _ (((rd t330 x4_1) / 65536) % 256) [.int .u8 (((rd t330 x4_1) / 65536) % 256)] from rfl) (Reps.one (show Kd.M (Kd.int .u8) _ _ _ (((rd t330 x4_1) / 256) % 256) [.int .u8 (((rd t330 x4_1) / 256) % 256)] from rfl) (Reps.one (show Kd.M (Kd.int .u8) _ _ _ ((rd t330 x4_1) % 256) [.int .u8 ((rd t330 x4_1) % 256)] from rfl) (Reps.none _ _)))))); intro v338 w14 ho15 hb hg_ hnew_; clear hg_ hnew_; (first | rw [← Ny337.out] at ho15 | (simp only [Int.reduceToNat] at ho15; rw [← Ny337.out] at ho15)); have n0_ := Aside0.mk (Kd.V_elder' (by (with_reducible repeat (first | apply Kd.V_alloc | apply Kd.V_drewN | apply Kd.V_drew)); exact HO_0.out) (Kd.R_base ho15) hb); have n1_ := Aside0.mk (Kd.R_elder' zq39 (Kd.R_base ho15) hb); have n2_ := Aside0.mk (Kd.R_lower (Kd.R_new' ho15 (Kd.R_lt zq39)) (below_size zH)); have n3_ := sB hb; revert n0_ n1_ n2_ n3_; clear HO_0 HO_3 HB; intro HO_0 HO_3 HO339 HB; clear hb ho15; obtain ⟨Ao17, co17, eo17⟩ := Kd.R_slice HO339.out; subst eo17) | ((with_reducible refine gate_builtin (b := .append) (xs := #[.tmp 23, .tmp 35]) rfl ?_); at_builtin; refine Kd.R_append_rows (Kd.int .u8) (w0 := w) w.heap.size rfl (.tmp 23) (.tmp 35) 100 5 (.int .u8 0) 1 rfl Tryd.underlying100 info5 rfl (by decide) (by omega) u3 x3_1 y337 _ _ _ (fun k_ => some k_ ≠ (.slice Ao17 y337.length co17 : Value).ownBlock) (fun _ => False) rfl rfl ?aO ?aR (fun _ _ h => h) (fun _ h => h.elim) ?aF ?aB ?aS ?aL ?_; (case aR => repeat (first | exact (Kd.R_reads' HO339.out).2.2 | (with_reducible refine Kd.C_alloc ?_ _) | (with_reducible refine Kd.C_drewN ?_ _) | (with_reducible refine Kd.C_drew ?_))); (case aB => exact zH); (case aF => exact (fun k_ hk => Kd.fresh' (Kd.R_lt (by (with_reducible repeat (first | apply Kd.R_alloc | apply Kd.R_drewN | apply Kd.R_drew)); exact HO339.out)) k_ hk)); (case aO => exact (by (with_reducible repeat (first | apply Kd.R_alloc | apply Kd.R_drewN | apply Kd.R_drew)); exact Kd.R_mono HO_3.out (fun _ hk => hk.2))); (case aS => exact (below_size zH)); (case aL => have := LMc13.out; omega); intro v341 w16 ho hb hg hat; rw [← Ny340.out] at ho; have n0_ := Aside0.mk (Kd.V_afterv (ok := (fun k_ => some k_ ≠ (.slice Ao17 y337.length co17 : Value).ownBlock)) (by (with_reducible repeat (first | apply Kd.V_alloc | apply Kd.V_drewN | apply Kd.V_drew)); exact Kd.V_mono HO_0.out (fun _ hk => ⟨hk.2, hk.1⟩)) hg hat); have n1_ := Aside0.mk (Kd.R_after (ok := (fun _ => True)) (by (with_reducible repeat (first | apply Kd.R_alloc | apply Kd.R_drewN | apply Kd.R_drew)); exact HO339.out) hg hat); have n2_ := Aside0.mk (hb); have n3_ := Aside0.mk (ho); revert n0_ n1_ n2_ n3_; clear HO_0 HO339 HB HO_3; intro HO_0 HO339 HB HO342; clear ho hb hg hat))
    go_roundg k1
    case measure => have := HK1.out; omega
    case rel => exact ⟨(y340), (wrap64 (x4_1 - 1)), zq1, H', ⟨by have := HK1.out; omega⟩, ⟨by (with_reducible repeat (first | apply Kd.V_alloc | apply Kd.V_drewN | apply Kd.V_drew)); exact Kd.V_mono HO_0.out (fun _ hk => hk.2)⟩, ⟨by (with_reducible repeat (first | apply Kd.R_alloc | apply Kd.R_drewN | apply Kd.R_drew)); exact Kd.R_mono HO342.out (fun _ hk => trivial)⟩, ⟨zH⟩⟩
   ·rw [if_neg c10] at H
    have c10b0 := decide_eq_false c10
    clear c10
    replace H := bS H
    obtain ⟨t343, A18, H⟩ := H
    obtain rfl := Option.some.inj H
    have hcv19 := own_string (P := Tryd.prog) Tryd.underlying100 Tryd.underlying5 Tryd.underlying9 (Kd.own_of_R HO_3.out)
    go_wp2_with (first | (refine goesLA 39 Tryd.func79 #[.string (strOfNums x3_1)] ?_; (with_reducible refine (R1Normalize.calls k1 (strOfNums x3_1) t343 _ A18.out).mono ?_); rintro e w' ⟨rfl, ⟨nd, rfl⟩⟩; refine ⟨_, rfl, ?_⟩))
    go_ret
    exact ⟨by first | rfl | (simp [errW_none, errW_some] <;> rfl) | (simp only [← hji3]; first | rfl | (simp [errW_none, errW_some] <;> rfl)) | (simp [*, errW_none, errW_some] <;> rfl), zH⟩
end Go.Proofs.YtggfilmdfpmbmaaDoor.QN
end
section
namespace Go.Proofs.YtggfilmdfpmbmaaDoor.QN
open Go.RowKit Go.Proofs.YtggfilmdfpmbmaaDoorW.PrintWords Go.Proofs.YtggfilmdfpmbmaaDoorW.PrintLast Go.Proofs.YtggfilmdfpmbmaaDoorW.PrintMore
attribute [local go_sem] max2_int min2_int max_two min_two max_three min_three max_four min_four   -- for this text's walks alone
set_option linter.unusedVariables false
set_option linter.unusedSimpArgs false
def R1order.l0 : Nat → List Int → List Int → Int → Option (Int)
 | 0, _, _, _ => none
 | k + 1, x0, x1, x5 => if x5 ≥ 0 then (if 0 ≤ x5 then (if x5 < (x0.length : Int) then (if x5 < (x1.length : Int) then (if (rd x0 x5) = (rd x1 x5) then (R1order.l0 k x0 x1 (wrap64 (x5 - 1))) else (if (rd x0 x5) < (rd x1 x5) then (some (-1)) else (some 1))) else (none)) else (none)) else (none)) else (some 0)
def R1order.f (k : Nat) (l0 : List Int) (l1 : List Int) : Option (Int) := if (l0.length : Int) = (l1.length : Int) then (R1order.l0 k l0 l1 (wrap64 ((l0.length : Int) - 1))) else (if (l0.length : Int) < (l1.length : Int) then (some (-1)) else (some 1))
set_option maxHeartbeats 8000000 in
set_option maxRecDepth 100000 in
theorem R1order.calls (k : Nat) (A0 : Option Addr) (c0 : Nat) (l0 : List Int) (A1 : Option Addr) (c1 : Nat) (l1 : List Int) (r : Int) (w : World) (hr0 : Kd.C (Kd.int .u32) w A0 l0.length l0) (hc0 : l0.length ≤ c0) (hr1 : Kd.C (Kd.int .u32) w A1 l1.length l1) (hc1 : l1.length ≤ c1) (h : R1order.f k l0 l1 = some r) :
 Calls Tryd.prog 82 #[.slice A0 l0.length c0, .slice A1 l1.length c1] w fun e w' => e = .returned (.int .i64 r) ∧ Drawn0 w w' := by
 have HR0 := Aside0.mk hr0
 have HC0 := Aside0.mk hc0
 clear hr0 hc0
 have HR1 := Aside0.mk hr1
 have HC1 := Aside0.mk hc1
 clear hr1 hc1
 have H : (if (l0.length : Int) = (l1.length : Int) then (R1order.l0 k l0 l1 (wrap64 ((l0.length : Int) - 1))) else (if (l0.length : Int) < (l1.length : Int) then (some (-1)) else (some 1))) = some r := h
 clear h
 by_cases c3 : (l0.length : Int) = (l1.length : Int)
 ·rw [if_pos c3] at H
  have c3b0 := beq_iff_eq.mpr c3
  have c3b1 : ((l0.length : Int) != (l1.length : Int)) = false := bne_eq_false_iff_eq.mpr c3
  have c3b2 : (l0.length == l1.length) = true := by first | simpa using c3 | (simp at c3 ⊢; omega)
  clear c3
  have H' := Aside0.mk H
  clear H
  go_enter Tryd.func82, Tryd.ntmps82
  go_wp2
  repeat (go_quiet (fail); try go_wp2)
  go_loopg [5] k (fun kq v5 w' => ∃ (x5_1 : Int), v5 = .int .i64 x5_1 ∧ Aside0 (R1order.l0 kq l0 l1 x5_1 = some r) ∧ Aside0 (kq ≤ k) ∧ Drawn0 w w')
  case atStart => exact ⟨(wrap64 ((l0.length : Int) - 1)), zq1, H', ⟨Nat.le_refl _⟩, by repeat (first | exact Drawn0.refl _ | apply Drawn0.step)⟩
  case round =>
   clear H'
   obtain ⟨x5_1, rfl, HA, HK1, ⟨m1, rfl⟩⟩ := hrel
   cases gk with
   | zero => exact absurd HA.out (by simp [R1order.l0])
   | succ k1 =>
    have H := HA.out
    clear HA
    simp only [R1order.l0] at H
    by_cases c4 : x5_1 ≥ 0
    ·rw [if_pos c4] at H
     have c4b0 := decide_eq_true c4
     clear c4
     replace H := iteD H
     obtain ⟨c5b0, H⟩ := H
     replace H := iteD H
     obtain ⟨c6b0, H⟩ := H
     replace H := iteD H
     obtain ⟨c7b0, H⟩ := H
     by_cases c8 : (rd l0 x5_1) = (rd l1 x5_1)
     ·rw [if_pos c8] at H
      have c8b0 := beq_iff_eq.mpr c8
      have c8b1 : ((rd l0 x5_1) != (rd l1 x5_1)) = false := bne_eq_false_iff_eq.mpr c8
      clear c8
      have H' := Aside0.mk H
      clear H
      obtain ⟨ad344, e344, hx344_0, p344, q344⟩ := atI HR0.out x5_1
      cases e344
      obtain ⟨ad345, e345, hx345_0, p345, q345⟩ := atI HR1.out x5_1
      cases e345
      go_wp2
      repeat (go_quiet (fail); try go_wp2)
      go_roundg k1
      case measure => have := HK1.out; omega
      case rel => exact ⟨(wrap64 (x5_1 - 1)), zq1, H', ⟨by have := HK1.out; omega⟩, by repeat (first | exact Drawn0.refl _ | apply Drawn0.step)⟩
     ·rw [if_neg c8] at H
      have c8b0 := beq_eq_false_iff_ne.mpr c8
      have c8b1 := bne_iff_ne.mpr c8
      by_cases c9 : (rd l0 x5_1) < (rd l1 x5_1)
      ·rw [if_pos c9] at H
       have c9b0 := decide_eq_true c9
       clear c9
       obtain rfl := Option.some.inj H
       obtain ⟨ad344, e344, hx344_0, p344, q344⟩ := atI HR0.out x5_1
       cases e344
       obtain ⟨ad345, e345, hx345_0, p345, q345⟩ := atI HR1.out x5_1
       cases e345
       obtain ⟨ad346, e346, hx346_0, p346, q346⟩ := atI HR0.out x5_1
       obtain rfl : ad344 = ad346 := (by injection e346)
       obtain ⟨ad347, e347, hx347_0, p347, q347⟩ := atI HR1.out x5_1
       obtain rfl : ad345 = ad347 := (by injection e347)
       go_wp2
       repeat (go_quiet (fail); try go_wp2)
       go_ret
       exact ⟨by first | rfl | (simp; done) | (simp [*]; done), by repeat (first | exact Drawn0.refl _ | apply Drawn0.step)⟩
      ·rw [if_neg c9] at H
       have c9b0 := decide_eq_false c9
       clear c9
       obtain rfl := Option.some.inj H
       obtain ⟨ad344, e344, hx344_0, p344, q344⟩ := atI HR0.out x5_1
       cases e344
       obtain ⟨ad345, e345, hx345_0, p345, q345⟩ := atI HR1.out x5_1
       cases e345
       obtain ⟨ad346, e346, hx346_0, p346, q346⟩ := atI HR0.out x5_1
       obtain rfl : ad344 = ad346 := (by injection e346)
       obtain ⟨ad347, e347, hx347_0, p347, q347⟩ := atI HR1.out x5_1
       obtain rfl : ad345 = ad347 := (by injection e347)
       go_wp2
       repeat (go_quiet (fail); try go_wp2)
       go_ret
       exact ⟨by first | rfl | (simp; done) | (simp [*]; done), by repeat (first | exact Drawn0.refl _ | apply Drawn0.step)⟩
    ·rw [if_neg c4] at H
     have c4b0 := decide_eq_false c4
     clear c4
     obtain rfl := Option.some.inj H
     go_wp2
     repeat (go_quiet (fail); try go_wp2)
     go_ret
     exact ⟨by first | rfl | (simp; done) | (simp [*]; done), by repeat (first | exact Drawn0.refl _ | apply Drawn0.step)⟩
 ·rw [if_neg c3] at H
  have c3b0 := beq_eq_false_iff_ne.mpr c3
  have c3b1 := bne_iff_ne.mpr c3
  have c3b2 : (l0.length == l1.length) = false := by first | simpa using c3 | (simp at c3 ⊢; omega)
  by_cases c10 : (l0.length : Int) < (l1.length : Int)
  ·rw [if_pos c10] at H
   have c10b0 := decide_eq_true c10
   have c10b1 : decide (l0.length < l1.length) = true := decide_eq_true (Int.ofNat_lt.mp c10)
   clear c10
   obtain rfl := Option.some.inj H
   go_enter Tryd.func82, Tryd.ntmps82
   go_wp2
   repeat (go_quiet (fail); try go_wp2)
   go_ret
   exact ⟨by first | rfl | (simp; done) | (simp [*]; done), by repeat (first | exact Drawn0.refl _ | apply Drawn0.step)⟩
  ·rw [if_neg c10] at H
   have c10b0 := decide_eq_false c10
   have c10b1 : decide (l0.length < l1.length) = false := decide_eq_false (fun h => c10 (Int.ofNat_lt.mpr h))
   clear c10
   obtain rfl := Option.some.inj H
   go_enter Tryd.func82, Tryd.ntmps82
   go_wp2
   repeat (go_quiet (fail); try go_wp2)
   go_ret
   exact ⟨by first | rfl | (simp; done) | (simp [*]; done), by repeat (first | exact Drawn0.refl _ | apply Drawn0.step)⟩
def R1short.l0 : Nat → List Int → Int → List Int → Int → Int → Option (List Int × Int)
 | 0, _, _, _, _, _ => none
 | k + 1, x0, x1, x6, x7, x8 => if x8 ≥ 0 then (if 0 ≤ x8 then (if x8 < (x0.length : Int) then (if (IntKind.u64.wrap (x1)) = 0 then (none) else (if x8 < (x6.length : Int) then (R1short.l0 k x0 x1 (x6.set (x8 : Int).toNat ((IntKind.u64.wrap (Int.tdiv (Go.bits .or .u64 (IntKind.u64.wrap (x7 * 4294967296)) (IntKind.u64.wrap (rd x0 x8))) (IntKind.u64.wrap (x1)))) % 4294967296)) (Int.tmod (Go.bits .or .u64 (IntKind.u64.wrap (x7 * 4294967296)) (IntKind.u64.wrap (rd x0 x8))) (IntKind.u64.wrap (x1))) (wrap64 (x8 - 1))) else (none))) else (none)) else (none)) else ((R1strip.f k x6).bind fun t353 => (some (t353, (x7) % 4294967296)))
def R1short.f (k : Nat) (l0 : List Int) (a1 : Int) : Option (List Int × Int) := if 0 ≤ (l0.length : Int) then (if ((l0.length : Int) : Int).toNat ≤ 70368744177664 then (R1short.l0 k l0 a1 (List.replicate ((l0.length : Int) : Int).toNat 0) 0 (wrap64 ((l0.length : Int) - 1))) else (none)) else (none)
set_option maxHeartbeats 8000000 in
set_option maxRecDepth 100000 in
theorem R1short.calls (k : Nat) (A0 : Option Addr) (c0 : Nat) (l0 : List Int) (a1 : Int) (r1 : List Int) (r2 : Int) (w : World) (hr0 : Kd.C (Kd.int .u32) w A0 l0.length l0) (hc0 : l0.length ≤ c0) (h : R1short.f k l0 a1 = some (r1, r2)) :
 Calls Tryd.prog 91 #[.slice A0 l0.length c0, .int .u32 a1] w fun e w' => ∃ v0_ : Value, e = .returned (.tuple #[v0_, .int .u32 r2]) ∧ Kd.V (Kd.int .u32) 86 w' w.heap.size (fun k_ => (w.heap.size ≤ k_)) v0_ r1 ∧ Below w.heap.size w w' := by
 have HR0 := Aside0.mk hr0
 have HC0 := Aside0.mk hc0
 clear hr0 hc0
 have HB := Aside0.mk (Below.refl w.heap.size w)
 have H : (if 0 ≤ (l0.length : Int) then (if ((l0.length : Int) : Int).toNat ≤ 70368744177664 then (R1short.l0 k l0 a1 (List.replicate ((l0.length : Int) : Int).toNat 0) 0 (wrap64 ((l0.length : Int) - 1))) else (none)) else (none)) = some (r1, r2) := h
 clear h
 replace H := iteE H
 obtain ⟨c3b0, c3b1, H⟩ := H
 replace H := iteE H
 obtain ⟨c4b0, c4b1, H⟩ := H
 obtain ⟨y348, hy348⟩ : ∃ y_ : List Int, y_ = (List.replicate ((l0.length : Int) : Int).toNat 0) := ⟨_, rfl⟩
 (try rw [Option.bind_some] at H); (try rw [← hy348] at H)
 have Ny348 := Aside0.mk hy348
 clear hy348
 have H' := Aside0.mk H
 clear H
 go_enter Tryd.func91, Tryd.ntmps91
 go_wp2_with (first | ((with_reducible refine gate_dst (N := 11) rfl ?_); refine Kd.R_make (Kd.int .u32) _ 86 rfl (N := 11) rfl 74 _ _ rfl (l0.length : Int) rfl rfl Tryd.underlying74 (.int .u32 0) 4 info86 rfl (by decide) (by omega) 0 (ok := fun _ => True) (okp := fun _ => True) rfl (fun _ hk => hk) trivial (of_decide_eq_true zq0) (Nat.le_trans (Nat.mul_le_mul_right _ (of_decide_eq_true zq0 : (l0.length : Int).toNat ≤ 70368744177664)) (by omega)) (Below.refl _ _) (Nat.le_refl _) ?_; intro v349 w5 ho6 hb hg_ hnew_; clear hg_ hnew_; (first | rw [← Ny348.out] at ho6 | (simp only [Int.reduceToNat] at ho6; rw [← Ny348.out] at ho6)); have n0_ := Aside0.mk (Kd.R_lower (Kd.R_newM (M := fun k_ => (w.heap.size ≤ k_)) ho6 (below_size zH) (fun k_ h_ => h_)) (below_size zH)); have n1_ := sB hb; revert n0_ n1_; clear HB; intro HO350 HB; clear hb ho6))
 go_loopg [7, 8] k (fun kq v7 v8 w' => ∃ (x6_1 : List Int) (x7_1 : Int) (x8_1 : Int), v7 = .int .u64 x7_1 ∧ v8 = .int .i64 x8_1 ∧ Aside0 (R1short.l0 kq l0 a1 x6_1 x7_1 x8_1 = some (r1, r2)) ∧ Aside0 (kq ≤ k) ∧ Aside0 (Kd.R (Kd.int .u32) 86 w' w.heap.size (fun k_ => (w.heap.size ≤ k_)) v349 x6_1) ∧ Aside0 (Below w.heap.size w w'))
 case atStart => exact ⟨(y348), (0), (wrap64 ((l0.length : Int) - 1)), zq1, zq1, H', ⟨Nat.le_refl _⟩, ⟨by (with_reducible repeat (first | apply Kd.R_alloc | apply Kd.R_drewN | apply Kd.R_drew)); exact Kd.R_mono HO350.out (fun _ hk => hk.1)⟩, ⟨zH⟩⟩
 case round =>
  clear H'
  obtain ⟨x6_1, x7_1, x8_1, rfl, rfl, HA, HK1, HO_6, HB⟩ := hrel
  cases gk with
  | zero => exact absurd HA.out (by simp [R1short.l0])
  | succ k1 =>
   have H := HA.out
   clear HA
   simp only [R1short.l0] at H
   by_cases c7 : x8_1 ≥ 0
   ·rw [if_pos c7] at H
    have c7b0 := decide_eq_true c7
    clear c7
    replace H := iteD H
    obtain ⟨c8b0, H⟩ := H
    replace H := iteD H
    obtain ⟨c9b0, H⟩ := H
    by_cases c10 : (IntKind.u64.wrap (a1)) = 0
    ·rw [if_pos c10] at H
     exact absurd H (by simp)
    ·rw [if_neg c10] at H
     have c10b0 := beq_eq_false_iff_ne.mpr c10
     have c10b1 := bne_iff_ne.mpr c10
     replace H := iteD H
     obtain ⟨c11b0, H⟩ := H
     obtain ⟨y352, hy352⟩ : ∃ y_ : List Int, y_ = (x6_1.set (x8_1 : Int).toNat ((IntKind.u64.wrap (Int.tdiv (Go.bits .or .u64 (IntKind.u64.wrap (x7_1 * 4294967296)) (IntKind.u64.wrap (rd l0 x8_1))) (IntKind.u64.wrap (a1)))) % 4294967296)) := ⟨_, rfl⟩
     (try rw [Option.bind_some] at H); (try rw [← hy352] at H)
     have Ny352 := Aside0.mk hy352
     clear hy352
     have H' := Aside0.mk H
     clear H
     obtain ⟨ad351, e351, hx351_0, p351, q351⟩ := atI HR0.out x8_1
     cases e351
     (try replace hx351_0 := (HB.out.cell (World.block_lt_of_cell? w _ hx351_0)).trans hx351_0)
     have p12 : 0 ≤ (x8_1 : Int) := of_decide_eq_true zq0
     have q12 : (x8_1 : Int) < ((x6_1.length : Int) : Int) := of_decide_eq_true zq0
     obtain ⟨go12, co12, eo12, gb12, gl12, cl12, HG12⟩ := Kd.R_form HO_6.out (by omega)
     (first | cases eo12 | (injection eo12 with ea_ en_ ec_; (first | subst ea_ | (injection ea_ with ea_; subst ea_)); subst ec_; clear en_))
     have GB12 := Aside0.mk gb12
     have GG12 := Aside0.mk HG12
     clear gb12 gl12 HG12
     obtain ⟨hx12_0, hf12_0⟩ := Kd.R_celln 0 HO_6.out (x8_1 : Int) p12 q12
     (try simp only [Go.IntWalk.toNatUp] at hx12_0 hf12_0)
     replace p12 := eq_true p12
     replace q12 := eq_true q12
     have HP13 := Kd.R_putg HO_6.out (x8_1 : Int) ((IntKind.u64.wrap (Int.tdiv (Go.bits .or .u64 (IntKind.u64.wrap (x7_1 * 4294967296)) (IntKind.u64.wrap (rd l0 x8_1))) (IntKind.u64.wrap (a1)))) % 4294967296)
     go_wp2_with (first | ((with_reducible refine gate_store (t := 86) (p := 34) rfl ?_); refine store_event (t := 86) (p := 34) (v := ?vo_w14) (w1 := (wr.setCell ⟨go12, (x8_1 : Int).toNat, none⟩ (.int .u32 ((IntKind.u64.wrap (Int.tdiv (Go.bits .or .u64 (IntKind.u64.wrap (x7_1 * 4294967296)) (IntKind.u64.wrap (rd l0 x8_1))) (IntKind.u64.wrap (a1)))) % 4294967296)))) ?hg ?ho ?hn ?hr ?_; (case ho => rfl); (case hg => rfl); (case hn => rfl); (case hr => first | (go_simp; done) | (go_simp; rfl)); intro w14 hw; have hg : wr.grownBy w14 (some go12) := (by rw [hw]; exact HP13.2); have hp_ : Kd.R (Kd.int .u32) 86 w14 w.heap.size (fun k_ => (w.heap.size ≤ k_)) (.slice (some ⟨go12, 0, none⟩) x6_1.length co12) y352 := (by rw [hw, Ny352.out]; exact HP13.1); clear HP13; have n0_ := Aside0.mk (hp_); have n1_ := Aside0.mk ((by rw [hw]; exact below_set (HB.out) GB12.out : Below w.heap.size w w14)); revert n0_ n1_; clear HO_6 HB; intro HO_6 HB; clear hg hw hp_))
     go_roundg k1
     case measure => have := HK1.out; omega
     case rel => exact ⟨(y352), (Int.tmod (Go.bits .or .u64 (IntKind.u64.wrap (x7_1 * 4294967296)) (IntKind.u64.wrap (rd l0 x8_1))) (IntKind.u64.wrap (a1))), (wrap64 (x8_1 - 1)), zq1, zq1, H', ⟨by have := HK1.out; omega⟩, ⟨by (with_reducible repeat (first | apply Kd.R_alloc | apply Kd.R_drewN | apply Kd.R_drew)); exact HO_6.out⟩, ⟨zH⟩⟩
   ·rw [if_neg c7] at H
    have c7b0 := decide_eq_false c7
    clear c7
    replace H := bS H
    obtain ⟨t353, A15, H⟩ := H
    simp only [Option.some.injEq, Prod.mk.injEq] at H
    obtain ⟨rfl, rfl⟩ := H
    obtain ⟨Ao16, co16, eo16⟩ := Kd.R_slice HO_6.out
    subst eo16
    go_wp2_with (first | (refine goesLA 40 Tryd.func78 #[.slice Ao16 x6_1.length co16] ?_; (with_reducible refine (R1strip.calls k1 (fun k_ => some k_ = (.slice Ao16 x6_1.length co16 : Value).ownBlock) _ _ x6_1 t353 _ ?side1 A15.out).mono ?_); (case side1 => exact Kd.R_V (Kd.R_tight rfl (HO_6.out))); rintro e w17 ⟨v354, rfl, ho0, hb⟩; refine ⟨_, rfl, ?_⟩; have n0_ := Aside0.mk (Kd.R_below (by (with_reducible repeat (first | apply Kd.R_alloc | apply Kd.R_drewN | apply Kd.R_drew)); exact HO_6.out) hb); have n1_ := Aside0.mk (Kd.V_lower (Kd.V_mono (ok' := fun k_ => (w.heap.size ≤ k_)) ho0 (fun k_ hk_ => Or.elim hk_ (fun hs_ => ((HO_6.out).1 k_ hs_.symm)) (fun hn_ => (Nat.le_trans (below_size zH) hn_)))) (below_size zH)); have n2_ := sB hb; revert n0_ n1_ n2_; clear HO_6 HB; intro HO_6 HO355 HB; (try clear hb); (try clear hb2); (try clear hk); (try clear hi); (try clear ho0)))
    go_ret2
    exact ⟨_, zE, by (with_reducible repeat (first | apply Kd.V_alloc | apply Kd.V_drewN | apply Kd.V_drew)); exact HO355.out, zH⟩
def R1shifted.l0 : Nat → List Int → Int → List Int → Int → Option (List Int)
 | 0, _, _, _, _ => none
 | k + 1, x0, x1, x5, x6 => if x6 < (x0.length : Int) then (if 0 ≤ x6 then (if 0 ≤ x1 then (if x1 ≤ 64 then (if x6 < (x5.length : Int) then (if 0 ≤ (wrap64 (x6 + 1)) then (if (wrap64 (x6 + 1)) < (x5.length : Int) then (R1shifted.l0 k x0 x1 ((x5.set (x6 : Int).toNat (Go.bits .or .u32 (rd x5 x6) ((IntKind.u64.wrap ((IntKind.u64.wrap (rd x0 x6)) * 2 ^ x1.toNat)) % 4294967296))).set ((wrap64 (x6 + 1)) : Int).toNat (((IntKind.u64.wrap ((IntKind.u64.wrap (rd x0 x6)) * 2 ^ x1.toNat)) / 4294967296) % 4294967296)) (wrap64 (x6 + 1))) else (none)) else (none)) else (none)) else (none)) else (none)) else (none)) else (some x5)
def R1shifted.f (k : Nat) (l0 : List Int) (a1 : Int) : Option (List Int) := if 0 ≤ (wrap64 ((l0.length : Int) + 1)) then (if (wrap64 ((l0.length : Int) + 1) : Int).toNat ≤ 70368744177664 then (R1shifted.l0 k l0 a1 (List.replicate (wrap64 ((l0.length : Int) + 1) : Int).toNat 0) 0) else (none)) else (none)
set_option maxHeartbeats 8000000 in
set_option maxRecDepth 100000 in
theorem R1shifted.calls (k : Nat) (A0 : Option Addr) (c0 : Nat) (l0 : List Int) (a1 : Int) (r : List Int) (w : World) (hr0 : Kd.C (Kd.int .u32) w A0 l0.length l0) (hc0 : l0.length ≤ c0) (h : R1shifted.f k l0 a1 = some r) :
 Calls Tryd.prog 104 #[.slice A0 l0.length c0, .int .u64 a1] w fun e w' => ∃ v0_ : Value, e = .returned (v0_) ∧ Kd.R (Kd.int .u32) 86 w' w.heap.size (fun _ => True) v0_ r ∧ Below w.heap.size w w' := by
 have HR0 := Aside0.mk hr0
 have HC0 := Aside0.mk hc0
 clear hr0 hc0
 have HB := Aside0.mk (Below.refl w.heap.size w)
 have H : (if 0 ≤ (wrap64 ((l0.length : Int) + 1)) then (if (wrap64 ((l0.length : Int) + 1) : Int).toNat ≤ 70368744177664 then (R1shifted.l0 k l0 a1 (List.replicate (wrap64 ((l0.length : Int) + 1) : Int).toNat 0) 0) else (none)) else (none)) = some r := h
 clear h
 obtain ⟨ji3, hji3, hji3w⟩ := jI ((l0.length : Int) + 1)
 first | rw [hji3] at H | simp only [hji3] at H
 replace H := iteE H
 obtain ⟨c4b0, c4b1, H⟩ := H
 replace H := iteE H
 obtain ⟨c5b0, c5b1, H⟩ := H
 obtain ⟨y356, hy356⟩ : ∃ y_ : List Int, y_ = (List.replicate (ji3 : Int).toNat 0) := ⟨_, rfl⟩
 (try rw [Option.bind_some] at H); (try rw [← hy356] at H)
 have Ny356 := Aside0.mk hy356
 clear hy356
 have H' := Aside0.mk H
 clear H
 go_enter Tryd.func104, Tryd.ntmps104
 go_wp2_with (first | ((with_reducible refine gate_dst (N := 11) rfl ?_); refine Kd.R_make (Kd.int .u32) _ 86 rfl (N := 11) rfl 74 _ _ rfl ji3 rfl rfl Tryd.underlying74 (.int .u32 0) 4 info86 rfl (by decide) (by omega) 0 (ok := fun _ => True) (okp := fun _ => True) rfl (fun _ hk => hk) trivial (of_decide_eq_true zq0) (Nat.le_trans (Nat.mul_le_mul_right _ (of_decide_eq_true zq0 : ji3.toNat ≤ 70368744177664)) (by omega)) (Below.refl _ _) (Nat.le_refl _) ?_; intro v357 w6 ho7 hb hg_ hnew_; clear hg_ hnew_; (first | rw [← Ny356.out] at ho7 | (simp only [Int.reduceToNat] at ho7; rw [← Ny356.out] at ho7)); have n0_ := Aside0.mk (Kd.R_lower ho7 (below_size zH)); have n1_ := sB hb; revert n0_ n1_; clear HB; intro HO358 HB; clear hb ho7))
 go_loopg [6] k (fun kq v6 w' => ∃ (x5_1 : List Int) (x6_1 : Int), v6 = .int .i64 x6_1 ∧ Aside0 (R1shifted.l0 kq l0 a1 x5_1 x6_1 = some r) ∧ Aside0 (kq ≤ k) ∧ Aside0 (Kd.R (Kd.int .u32) 86 w' w.heap.size (fun _ => True) v357 x5_1) ∧ Aside0 (Below w.heap.size w w'))
 case atStart => exact ⟨(y356), (0), zq1, H', ⟨Nat.le_refl _⟩, ⟨by (with_reducible repeat (first | apply Kd.R_alloc | apply Kd.R_drewN | apply Kd.R_drew)); exact HO358.out⟩, ⟨zH⟩⟩
 case round =>
  clear H'
  obtain ⟨x5_1, x6_1, rfl, HA, HK1, HO_5, HB⟩ := hrel
  cases gk with
  | zero => exact absurd HA.out (by simp [R1shifted.l0])
  | succ k1 =>
   have H := HA.out
   clear HA
   simp only [R1shifted.l0] at H
   by_cases c8 : x6_1 < (l0.length : Int)
   ·rw [if_pos c8] at H
    have c8b0 := decide_eq_true c8
    clear c8
    replace H := iteD H
    obtain ⟨c9b0, H⟩ := H
    replace H := iteE H
    obtain ⟨c10b0, c10b1, H⟩ := H
    replace H := iteE H
    obtain ⟨c11b0, c11b1, H⟩ := H
    replace H := iteD H
    obtain ⟨c12b0, H⟩ := H
    obtain ⟨y361, hy361⟩ : ∃ y_ : List Int, y_ = (x5_1.set (x6_1 : Int).toNat (Go.bits .or .u32 (rd x5_1 x6_1) ((IntKind.u64.wrap ((IntKind.u64.wrap (rd l0 x6_1)) * 2 ^ a1.toNat)) % 4294967296))) := ⟨_, rfl⟩
    (try rw [Option.bind_some] at H); (try rw [← hy361] at H)
    have Ny361 := Aside0.mk hy361
    clear hy361
    obtain ⟨ji14, hji14, hji14w⟩ := jI (x6_1 + 1)
    first | rw [hji14] at H | simp only [hji14] at H
    replace H := iteD H
    obtain ⟨c15b0, H⟩ := H
    replace H := iteD H
    obtain ⟨c16b0, H⟩ := H
    obtain ⟨y362, hy362⟩ : ∃ y_ : List Int, y_ = (y361.set ((ji14) : Int).toNat (((IntKind.u64.wrap ((IntKind.u64.wrap (rd l0 x6_1)) * 2 ^ a1.toNat)) / 4294967296) % 4294967296)) := ⟨_, rfl⟩
    (try rw [Option.bind_some] at H); (try rw [← hy362] at H)
    have Ny362 := Aside0.mk hy362
    clear hy362
    have H' := Aside0.mk H
    clear H
    obtain ⟨ad359, e359, hx359_0, p359, q359⟩ := atI HR0.out x6_1
    cases e359
    (try replace hx359_0 := (HB.out.cell (World.block_lt_of_cell? w _ hx359_0)).trans hx359_0)
    obtain ⟨Ao18, co18, eo18⟩ := Kd.R_slice HO_5.out
    subst eo18
    obtain ⟨ad360, e360, hx360_0, p360, q360⟩ := atI (Kd.R_reads' HO_5.out).2.2 x6_1
    cases e360
    have p13 : 0 ≤ (x6_1 : Int) := of_decide_eq_true zq0
    have q13 : (x6_1 : Int) < ((x5_1.length : Int) : Int) := of_decide_eq_true zq0
    obtain ⟨go13, co13, eo13, gb13, gl13, cl13, HG13⟩ := Kd.R_form HO_5.out (by omega)
    (first | cases eo13 | (injection eo13 with ea_ en_ ec_; (first | subst ea_ | (injection ea_ with ea_; subst ea_)); subst ec_; clear en_))
    have GB13 := Aside0.mk gb13
    have GG13 := Aside0.mk HG13
    clear gb13 gl13 HG13
    (first | simp only [add_plain] at hx360_0 | skip)
    obtain ⟨hx13_0, hf13_0⟩ := Kd.R_celln 0 HO_5.out (x6_1 : Int) p13 q13
    (try simp only [Go.IntWalk.toNatUp] at hx13_0 hf13_0)
    replace p13 := eq_true p13
    replace q13 := eq_true q13
    have HP19 := Kd.R_putg HO_5.out (x6_1 : Int) (Go.bits .or .u32 (rd x5_1 x6_1) ((IntKind.u64.wrap ((IntKind.u64.wrap (rd l0 x6_1)) * 2 ^ a1.toNat)) % 4294967296))
    go_wp2_with (first | ((with_reducible refine gate_store (t := 86) (p := 34) rfl ?_); refine store_event (t := 86) (p := 34) (v := ?vo_w20) (w1 := (wr.setCell ⟨go13, (x6_1 : Int).toNat, none⟩ (.int .u32 (Go.bits .or .u32 (rd x5_1 x6_1) ((IntKind.u64.wrap ((IntKind.u64.wrap (rd l0 x6_1)) * 2 ^ a1.toNat)) % 4294967296))))) ?hg ?ho ?hn ?hr ?_; (case ho => rfl); (case hg => rfl); (case hn => rfl); (case hr => first | (go_simp; done) | (go_simp; rfl)); intro w20 hw; have hg : wr.grownBy w20 (some go13) := (by rw [hw]; exact HP19.2); have hp_ : Kd.R (Kd.int .u32) 86 w20 w.heap.size (fun _ => True) (.slice (some ⟨go13, 0, none⟩) x5_1.length co18) y361 := (by rw [hw, Ny361.out]; exact HP19.1); clear HP19; have n0_ := Aside0.mk (hp_); have n1_ := Aside0.mk ((by rw [hw]; exact below_set (HB.out) GB13.out : Below w.heap.size w w20)); revert n0_ n1_; clear HO_5 HB; intro HO_5 HB; clear hg hw hp_; have p17 : 0 ≤ ((ji14) : Int) := of_decide_eq_true zq0; have q17 : ((ji14) : Int) < ((x5_1.length : Int) : Int) := of_decide_eq_true zq0; obtain ⟨hx17_0, hf17_0⟩ := Kd.R_celln 0 HO_5.out ((ji14) : Int) p17 q17; replace p17 := eq_true p17; replace q17 := eq_true q17; obtain ⟨hy21_, hz21_⟩ := Kd.R_celln 0 HO_5.out ((ji14) : Int) (of_decide_eq_true zq0) (of_decide_eq_true zq0); have HP21 := Kd.R_putg HO_5.out ((ji14) : Int) (((IntKind.u64.wrap ((IntKind.u64.wrap (rd l0 x6_1)) * 2 ^ a1.toNat)) / 4294967296) % 4294967296)) | ((with_reducible refine gate_store (t := 86) (p := 41) rfl ?_); refine store_event (t := 86) (p := 41) (v := ?vo_w22) (w1 := (w20.setCell ⟨go13, ((ji14) : Int).toNat, none⟩ (.int .u32 (((IntKind.u64.wrap ((IntKind.u64.wrap (rd l0 x6_1)) * 2 ^ a1.toNat)) / 4294967296) % 4294967296)))) ?hg ?ho ?hn ?hr ?_; (case ho => rfl); (case hg => rfl); (case hn => rfl); (case hr => first | (go_simp; done) | (go_simp; rfl)); intro w22 hw; have hg : w20.grownBy w22 (some go13) := (by rw [hw]; exact HP21.2); have hp_ : Kd.R (Kd.int .u32) 86 w22 w.heap.size (fun _ => True) (.slice (some ⟨go13, 0, none⟩) x5_1.length co18) y362 := (by rw [hw, Ny362.out]; exact HP21.1); clear HP21; have n0_ := Aside0.mk (hp_); have n1_ := Aside0.mk ((by rw [hw]; exact below_set (HB.out) GB13.out : Below w.heap.size w w22)); revert n0_ n1_; clear HO_5 HB; intro HO_5 HB; clear hg hw hp_))
    go_roundg k1
    case measure => have := HK1.out; omega
    case rel => exact ⟨(y362), (ji14), (by first | rfl | (simp; done) | (simp only [← hji14] <;> (first | rfl | simp)) | (simp [*]; done)), H', ⟨by have := HK1.out; omega⟩, ⟨by (with_reducible repeat (first | apply Kd.R_alloc | apply Kd.R_drewN | apply Kd.R_drew)); exact HO_5.out⟩, ⟨zH⟩⟩
   ·rw [if_neg c8] at H
    have c8b0 := decide_eq_false c8
    clear c8
    obtain rfl := Option.some.inj H
    go_wp2
    go_ret
    exact ⟨_, by first | rfl | (simp [errW_none, errW_some] <;> rfl) | (simp only [← hji3]; first | rfl | (simp [errW_none, errW_some] <;> rfl)) | (simp [*, errW_none, errW_some] <;> rfl), by (with_reducible repeat (first | apply Kd.R_alloc | apply Kd.R_drewN | apply Kd.R_drew)); exact HO_5.out, zH⟩
end Go.Proofs.YtggfilmdfpmbmaaDoor.QN
end
