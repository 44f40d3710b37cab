/-
  Steps and laws behind the statement that the claim's last text proves: the words of the walks, the walks of the Go functions (printed by a program of this session's own, then shortened by one), and what they compute. Conditions: stated at each theorem.
-/
import Derived.Test.YtggfilmdfpmbmaaGreatDoorProg
import Derived.Below
import Derived.Deep.Draws
import Derived.Deep.AppendLies
import Derived.Maps.AppendAt
import Derived.OwnWalk
import Derived.Laws.BytesArg
import Derived.Laws.MakeOwn
import Derived.Laws.OwnMore
import Derived.Deep.OwnRows
import Derived.Tactics
import Derived.Lib.ConvBytes
import Derived.Laws.Slices
import Derived.WalkKit
import Derived.KernelRfl
import Derived.RowKit3
import Derived.Deep.LoopGhost
import Derived.Deep.QuietTactic
import Derived.BigQuiet
import Derived.WideLaws
import Derived.Deep.DeepCutAuto
import Derived.Deep.CutBlock
import Derived.Deep.RegionHeld3
import Derived.Laws.Rows
import Derived.Lib.AppendStr
import Derived.ArgAppend
import Derived.Laws.IdiomCopy
import Derived.OrdersHeld
import Derived.Laws.BitsLemmas
import Derived.RowKit
import Derived.Lib.Strings
import Derived.Lib.Slices
import Derived.Lib.Small
import Derived.Lib.Walk
import Derived.Lib.BitFns
import Derived.Lib.Bytealg
import Derived.Test.YtggfilmdfpmbmaaGreatDoorPB
import Derived.Test.YtggfilmdfpmbmaaGreatDoorP0
section
namespace Go.Proofs.YtggfilmdfpmbmaaGreatDoor.QN
open Go.RowKit Go.Proofs.YtggfilmdfpmbmaaGreatDoorW.PrintWords Go.Proofs.YtggfilmdfpmbmaaGreatDoorW.PrintLast Go.Proofs.YtggfilmdfpmbmaaGreatDoorW.PrintMore
attribute [local go_sem] max2_int min2_int max_two min_two max_three min_three max_four min_four
set_option linter.unusedVariables false
set_option linter.unusedSimpArgs false
def errW : Option Int → Value
  | none => .nilIface
  | some c => .iface 0 (.int .i64 c)
theorem errW_none : errW none = .nilIface := rfl
theorem errW_some (c : Int) : errW (some c) = .iface 0 (.int .i64 c) := rfl
theorem info5 : (Tryz.prog.info? 5).map (fun i => (i.zero, i.size, i.bytes)) = some (some (.int .u8 0), 1, 1) := by kernel_rfl
theorem info80 : (Tryz.prog.info? 80).map (fun i => (i.zero, i.size, i.bytes)) = some (some (.int .u32 0), 1, 4) := by kernel_rfl
end Go.Proofs.YtggfilmdfpmbmaaGreatDoor.QN
end
section
namespace Go.Proofs.YtggfilmdfpmbmaaGreatDoor.QN
open Go.RowKit Go.Proofs.YtggfilmdfpmbmaaGreatDoorW.PrintWords Go.Proofs.YtggfilmdfpmbmaaGreatDoorW.PrintLast Go.Proofs.YtggfilmdfpmbmaaGreatDoorW.PrintMore
attribute [local go_sem] max2_int min2_int max_two min_two max_three min_three max_four min_four
set_option linter.unusedVariables false
set_option linter.unusedSimpArgs false
set_option maxHeartbeats 8000000
set_option maxRecDepth 100000
def T1trimLeftByte.l0 : Nat → ByteArray → Int → Option (ByteArray)
 | 0, _, _ => none
 | k + 1, x0, x1 => if (x0.size : Int) > 0 then (if 0 < (x0.size : Int) then (if (bt x0 0) = x1 then (if 1 ≤ (x0.size : Int) then (T1trimLeftByte.l0 k (x0.extract 1 x0.size) x1) else (none)) else (some x0)) else (none)) else (some x0)
def T1trimLeftByte.f (k : Nat) (a0 : ByteArray) (a1 : Int) : Option (ByteArray) := T1trimLeftByte.l0 k a0 a1
theorem T1trimLeftByte.calls (k : Nat) (a0 : ByteArray) (a1 : Int) (r : ByteArray) (w : World) (H : T1trimLeftByte.f k a0 a1 = some r) :
 Calls Tryz.prog 85 #[.string a0, .int .u8 a1] w fun e w' => e = .returned (.string r) ∧ Drawn0 w w' := by
 unfold T1trimLeftByte.f at H
 have H' := Aside0.mk H
 clear H
 go_enter Tryz.func85, Tryz.ntmps85
 go_wp2
 go_loopg [0] k (fun kq v1 w' => ∃ (x1 : ByteArray), v1 = .string x1 ∧ Aside0 (T1trimLeftByte.l0 kq x1 a1 = some r) ∧ Aside0 (kq ≤ k) ∧ Drawn0 w w')
 case atStart => exact ⟨(a0), zq1, H', ⟨Nat.le_refl _⟩, zq7⟩
 case round =>
  clear H'
  obtain ⟨x1, rfl, HA, HK1, ⟨m1, rfl⟩⟩ := hrel
  cases gk with
  | zero => exact absurd HA.out (by simp [T1trimLeftByte.l0])
  | succ k1 =>
   have H := HA.out
   clear HA
   simp only [T1trimLeftByte.l0] at H
   by_cases c1 : (x1.size : Int) > 0
   ·rw [if_pos c1] at H
    have c1b0 := decide_eq_true c1
    have c1b1 : decide (0 < x1.size) = true := decide_eq_true (by omega)
    clear c1
    replace H := of_ite H
    obtain ⟨c2, H⟩ := H
    have c2b0 := decide_eq_true c2
    have c2b1 : decide (0 < x1.size) = true := decide_eq_true (by omega)
    clear c2
    replace H := iQ H
    rcases H with ⟨c3b0, c3b1, H⟩ | ⟨c3b0, c3b1, H⟩
    ·replace ⟨c4b0, c4b1, H⟩ := iteE H
     have H' := Aside0.mk H
     clear H
     have p1 : 0 ≤ (0 : Int) := (by omega)
     have q1 : 0 < x1.size := (by have : (0 : Int) < (x1.size : Int) := of_decide_eq_true zq0; omega)
     have hx1 : ∀ h : 0 < x1.size, ((x1[0]'h).toNat : Int) = bt x1 0 := bt_at x1 0
     clear p1
     have qi5 : (0 < (x1.size : Int)) = True := eq_true (of_decide_eq_true zq0)
     replace q1 := eq_true q1
     go_wp2
     go_roundg k1
     case measure => have := HK1.out; omega
     case rel => exact ⟨(x1.extract 1 x1.size), zq1, H', ⟨zq4⟩, zq7⟩
    ·obtain rfl := sI H
     have p1 : 0 ≤ (0 : Int) := (by omega)
     have q1 : 0 < x1.size := (by have : (0 : Int) < (x1.size : Int) := of_decide_eq_true zq0; omega)
     have hx1 : ∀ h : 0 < x1.size, ((x1[0]'h).toNat : Int) = bt x1 0 := bt_at x1 0
     clear p1
     have qi5 : (0 < (x1.size : Int)) = True := eq_true (of_decide_eq_true zq0)
     replace q1 := eq_true q1
     go_wp2
     go_ret
     exact ⟨zq1, zq7⟩
   ·rw [if_neg c1] at H
    have c1b0 := decide_eq_false c1
    have c1b1 : decide (0 < x1.size) = false := decide_eq_false (by omega)
    clear c1
    obtain rfl := sI H
    go_wp2
    go_ret
    exact ⟨zq1, zq7⟩
def T1TrimLeft.f (k : Nat) (a0 a1 : ByteArray) : Option (ByteArray) := if a1 = (⟨#[0]⟩ : ByteArray) then (T1trimLeftByte.f k a0 0) else (none)
set_option maxHeartbeats 4000000 in
theorem T1TrimLeft.calls (k : Nat) (a0 a1 r : ByteArray) (w : World) (h : T1TrimLeft.f k a0 a1 = some r) :
 Calls Tryz.prog 77 #[.string a0, .string a1] w fun e w' => e = .returned (.string r) ∧ Drawn0 w w' := by
 unfold T1TrimLeft.f at h
 split at h
 ·rename_i h1
  subst h1
  have h' := Aside0.mk h
  clear h
  by_cases h2 : a0.toList = []
  ·have e : a0.toList.isEmpty = true := by rw [h2]; rfl
   have e1 : (!a0.toList.isEmpty) = false := by rw [h2]; rfl
   have h5 := h'.out
   have z0 : a0.size = 0 := by
    rw [ByteArray.toList_eq] at h2
    have := congrArg List.length h2
    rw [Array.length_toList] at this
    exact this
   have hr : a0 = r := by
    cases k with
    | zero => simp [T1trimLeftByte.f, T1trimLeftByte.l0] at h5
    | succ k =>
     simp only [T1trimLeftByte.f, T1trimLeftByte.l0] at h5
     rw [if_neg (by omega)] at h5
     exact Option.some.inj h5
   subst hr
   clear h5 z0 h'
   go_enter Tryz.func77, Tryz.ntmps77
   go_wp2
   go_ret
   exact ⟨rfl, Drawn0.refl _⟩
  ·have e : a0.toList.isEmpty = false := by cases hh : a0.toList with | nil => exact absurd hh h2 | cons _ _ => rfl
   have e1 : (!a0.toList.isEmpty) = true := by rw [e]; rfl
   go_enter Tryz.func77, Tryz.ntmps77
   go_wp2_with (go_at_call 85; refine (T1trimLeftByte.calls k a0 0 r _ h'.out).mono ?_; rintro e w' ⟨rfl, ⟨m1, rfl⟩⟩)
   go_ret
   exact ⟨rfl, zq7⟩
 ·cases h
def N1Normalize.f (k : Nat) (a0 : ByteArray) : Option (ByteArray) := (T1TrimLeft.f k a0 (⟨#[0]⟩ : ByteArray)).bind fun t101 => (some t101)
theorem N1Normalize.calls (k : Nat) (a0 r : ByteArray) (w : World) (H : N1Normalize.f k a0 = some r) :
 Calls Tryz.prog 60 #[.string a0] w fun e w' => e = .returned (.string r) ∧ Drawn0 w w' := by
 unfold N1Normalize.f at H
 replace ⟨t1, A1, H⟩ := bS H
 obtain rfl := sI H
 go_enter Tryz.func60, Tryz.ntmps60
 go_wp2_with (refine gD 4 Tryz.func77 (T1TrimLeft.calls _ _ _ _ _ A1.out) fun nd => ?_)
 go_ret
 exact ⟨zq1, zq7⟩
def N1limbs_trim.l0 : Nat → List Int → Int → Option (List Int)
 | 0, _, _ => none
 | k + 1, x0, x3 => if x3 > 0 then (if 0 ≤ (wrap64 (x3 - 1)) then (if (wrap64 (x3 - 1)) < (x0.length : Int) then (if (rd x0 (wrap64 (x3 - 1))) = 0 then (N1limbs_trim.l0 k x0 (wrap64 (x3 - 1))) else (if 0 ≤ x3 then (if x3 ≤ (x0.length : Int) then (some (x0.take (x3 : Int).toNat)) else (none)) else (none))) else (none)) else (none)) else (if 0 ≤ x3 then (if x3 ≤ (x0.length : Int) then (some (x0.take (x3 : Int).toNat)) else (none)) else (none))
def N1limbs_trim.f (k : Nat) (l0 : List Int) : Option (List Int) := N1limbs_trim.l0 k l0 (l0.length : Int)
theorem N1limbs_trim.calls (k : Nat) (P0_ : Nat → Prop) (A0 : Option Addr) (c0 : Nat) (l0 r : List Int) (w : World) (hs0 : Kd.V (Kd.int .u32) 80 w w.heap.size (fun k_ => P0_ k_) (.slice A0 l0.length c0) l0) (H : N1limbs_trim.f k l0 = some r) :
 Calls Tryz.prog 79 #[.slice A0 l0.length c0] w fun e w' => ∃ v0_ : Value, e = .returned (v0_) ∧ Kd.V (Kd.int .u32) 80 w' w.heap.size (fun k_ => (P0_ k_ ∨ w.heap.size ≤ k_)) v0_ r ∧ Below w.heap.size w w' := by
 have O1 := Aside0.mk (show Kd.V (Kd.int .u32) 80 w w.heap.size (fun k_ => (P0_ k_ ∨ w.heap.size ≤ k_)) (.slice A0 l0.length c0) l0 from Kd.V_mono hs0 (fun k_ hk => .inl hk))
 have HB := Aside0.mk (Below.refl w.heap.size w)
 unfold N1limbs_trim.f at H
 have H' := Aside0.mk H
 clear H
 go_enter Tryz.func79, Tryz.ntmps79
 go_wp2
 go_loopg [3] k (fun kq v1 w' => ∃ (x1 : Int), v1 = .int .i64 x1 ∧ Aside0 (N1limbs_trim.l0 kq l0 x1 = some r) ∧ Aside0 (kq ≤ k) ∧ Aside0 (Kd.V (Kd.int .u32) 80 w' w.heap.size (fun k_ => (P0_ k_ ∨ w.heap.size ≤ k_)) (.slice A0 l0.length c0) l0) ∧ Aside0 (Below w.heap.size w w'))
 case atStart => exact ⟨((l0.length : Int)), zq1, H', ⟨Nat.le_refl _⟩, ⟨zV⟩, ⟨zH⟩⟩
 case round =>
  clear H'
  obtain ⟨x1, rfl, HA, HK1, HO_0, HB⟩ := hrel
  cases gk with
  | zero => exact absurd HA.out (by simp [N1limbs_trim.l0])
  | succ k1 =>
   have H := HA.out
   clear HA
   simp only [N1limbs_trim.l0] at H
   replace H := iL H
   rcases H with ⟨c1b0, H⟩ | ⟨c1b0, H⟩
   ·obtain ⟨j1, jh1, jh1w⟩ := jI (x1 - 1)
    first | rw [jh1] at H | simp only [jh1] at H
    replace ⟨c2b0, H⟩ := iteD H
    replace ⟨c3b0, H⟩ := iteD H
    replace H := iQ H
    rcases H with ⟨c4b0, c4b1, H⟩ | ⟨c4b0, c4b1, H⟩
    ·have H' := Aside0.mk H
     clear H
     obtain ⟨ad1, e1, hx1, p1, q1⟩ := atI (Kd.V_reads' HO_0.out).2.2 (j1)
     cases e1
     go_wp2
     go_roundg k1
     case measure => have := HK1.out; omega
     case rel => exact ⟨(j1), zq15, H', ⟨zq4⟩, ⟨zV⟩, ⟨zH⟩⟩
    ·replace ⟨c5b0, c5b1, H⟩ := iteE H
     replace ⟨c6b0, c6b1, H⟩ := iteE H
     generalize yh1 : (l0.take (x1 : Int).toNat : List Int) = y1 at H
     have Y1 := Aside0.mk yh1.symm; clear yh1
     obtain rfl := sI H
     obtain ⟨ad1, e1, hx1, p1, q1⟩ := atI (Kd.V_reads' HO_0.out).2.2 (j1)
     cases e1
     have q2 : (x1 : Int) ≤ ((l0.length : Int) : Int) := of_decide_eq_true zq0
     obtain ⟨i09, hi09, _, hsz9, _⟩ := info_parts info80
     have hroom9 : l0.length ≤ c0 := (Kd.V_reads' HO_0.out).2.1
     have hC9 : Kd.F (Kd.int .u32) _ _ (some ad1) l0.length l0 := (Kd.V_at (base := w.heap.size) HO_0.out).2.2
     have hcut9 := cut_to (P := Tryz.prog) 78 80 .i64 Tryz.underlying78 hi09 (some ad1) l0.length c0 x1 (of_decide_eq_true zq0) q2 hroom9
     have hr9 := Kd.F_take (m := (x1 : Int).toNat) hC9 (by omega)
     have yh2 : y1.length = (x1 : Int).toNat := (by rw [Y1.out, List.length_take]; omega)
     rw [← Y1.out] at hr9
     rw [← yh2] at hcut9
     have O2 := Aside0.mk (show Kd.V (Kd.int .u32) 80 _ w.heap.size _ (.slice (some ad1) y1.length c0) y1 from Kd.V_mk (by omega) hr9)
     have HC107 := Aside0.mk (show y1.length ≤ c0 from by omega)
     clear hr9 hC9 hroom9 hi09 hsz9
     have KY9 := Aside0.mk yh2
     clear yh2
     replace q2 := eq_true q2
     go_wp2
     go_ret
     exact ⟨_, zq9, zV, zH⟩
   ·replace ⟨c2b0, c2b1, H⟩ := iteE H
    replace ⟨c3b0, c3b1, H⟩ := iteE H
    generalize yh1 : (l0.take (x1 : Int).toNat : List Int) = y1 at H
    have Y1 := Aside0.mk yh1.symm; clear yh1
    obtain rfl := sI H
    have q1 : (x1 : Int) ≤ ((l0.length : Int) : Int) := of_decide_eq_true zq0
    obtain ⟨i012, hi012, _, hsz12, _⟩ := info_parts info80
    have hroom12 : l0.length ≤ c0 := (Kd.V_reads' HO_0.out).2.1
    have hC12 : Kd.F (Kd.int .u32) _ _ A0 l0.length l0 := (Kd.V_at (base := w.heap.size) HO_0.out).2.2
    have hcut12 := cut_to (P := Tryz.prog) 78 80 .i64 Tryz.underlying78 hi012 A0 l0.length c0 x1 (of_decide_eq_true zq0) q1 hroom12
    have hr12 := Kd.F_take (m := (x1 : Int).toNat) hC12 (by omega)
    have yh2 : y1.length = (x1 : Int).toNat := (by rw [Y1.out, List.length_take]; omega)
    rw [← Y1.out] at hr12
    rw [← yh2] at hcut12
    have O2 := Aside0.mk (show Kd.V (Kd.int .u32) 80 _ w.heap.size _ (.slice A0 y1.length c0) y1 from Kd.V_mk (by omega) hr12)
    have HC112 := Aside0.mk (show y1.length ≤ c0 from by omega)
    clear hr12 hC12 hroom12 hi012 hsz12
    have KY12 := Aside0.mk yh2
    clear yh2
    replace q1 := eq_true q1
    go_wp2
    go_ret
    exact ⟨_, zE, zV, zH⟩
def N1parse.l0 : Nat → ByteArray → List Int → Int → Int → Option (List Int)
 | 0, _, _, _, _ => none
 | k + 1, x0, x3, x12, x13 => if x13 < x12 then (if 0 ≤ (wrap64 (Int.tdiv x13 4)) then (if (wrap64 (Int.tdiv x13 4)) < (x3.length : Int) then (if 0 ≤ (wrap64 ((wrap64 ((x0.size : Int) - 1)) - x13)) then (if (wrap64 ((wrap64 ((x0.size : Int) - 1)) - x13)) < (x0.size : Int) then (if 0 ≤ (wrap64 (8 * (Int.tmod x13 4))) then (if (wrap64 (8 * (Int.tmod x13 4))) ≤ 32 then (N1parse.l0 k x0 (x3.set ((wrap64 (Int.tdiv x13 4)) : Int).toNat (Go.bits .or .u32 (rd x3 (wrap64 (Int.tdiv x13 4))) ((((bt x0 (wrap64 ((wrap64 ((x0.size : Int) - 1)) - x13))) % 4294967296) * 2 ^ (wrap64 (8 * (Int.tmod x13 4))).toNat) % 4294967296))) x12 (wrap64 (x13 + 1))) else (none)) else (none)) else (none)) else (none)) else (none)) else (none)) else ((N1limbs_trim.f k x3).bind fun t118 => (some t118))
def N1parse.f (k : Nat) (a0 : ByteArray) : Option (List Int) := if 0 ≤ (wrap64 (Int.tdiv (wrap64 ((wrap64 ((a0.size : Int) + 4)) - 1)) 4)) then (if (wrap64 (Int.tdiv (wrap64 ((wrap64 ((a0.size : Int) + 4)) - 1)) 4) : Int).toNat ≤ 70368744177664 then (N1parse.l0 k a0 (List.replicate (wrap64 (Int.tdiv (wrap64 ((wrap64 ((a0.size : Int) + 4)) - 1)) 4) : Int).toNat 0) (a0.size : Int) 0) else (none)) else (none)
def N1parse.T5 : Bool × List (List Nat × List Nat) := (true, [([], []), ([], []), ([1], [1]), ([0, 2], [0, 2]), ([3], [3]), ([], []), ([], []), ([6], [6]), ([7], [7]), ([], []), ([8, 9], [8, 9]), ([5, 10], [5, 10]), ([11], [11]), ([], []), ([13], [13]), ([14], [14]), ([12, 15], [12, 15]), ([4, 16], [4, 16]), ([0, 2, 0, 1, 2, 3, 4, 5, 6, 7, 8, 9, 10, 11, 12, 13, 14, 15, 16, 17], [0, 2]), ([18, 17, 0, 1, 2, 3, 4, 5, 6, 7, 8, 9, 10, 11, 12, 13, 14, 15, 16, 17], [17, 18])])
def N1parse.B5 : List Nat := [0, 0, 2, 7, 15, 0, 0, 64, 192, 0, 960, 2016, 4064, 0, 8192, 24576, 65504, 131071, 262143, 524287]
theorem N1parse.tab5 : rtab .any (opsOf Tryz.f63 5) = N1parse.T5 := by kernel_rfl
theorem N1parse.bits5 : waitsOk N1parse.T5.2 N1parse.B5 = true := by kernel_rfl
theorem N1parse.calls (k : Nat) (a0 : ByteArray) (r : List Int) (w : World) (H : N1parse.f k a0 = some r) :
 Calls Tryz.prog 63 #[.string a0] w fun e w' => ∃ v0_ : Value, e = .returned (v0_) ∧ Kd.V (Kd.int .u32) 80 w' w.heap.size (fun k_ => (w.heap.size ≤ k_)) v0_ r ∧ Below w.heap.size w w' := by
 have HB := Aside0.mk (Below.refl w.heap.size w)
 unfold N1parse.f at H
 obtain ⟨j1, jh1, jh1w⟩ := jI (Int.tdiv (wrap64 ((wrap64 ((a0.size : Int) + 4)) - 1)) 4)
 first | rw [jh1] at H | simp only [jh1] at H
 replace ⟨c1b0, c1b1, H⟩ := iteE H
 replace ⟨c2b0, c2b1, H⟩ := iteE H
 generalize yh1 : (List.replicate (j1 : Int).toNat 0 : List Int) = y1 at H
 have Y1 := Aside0.mk yh1.symm; clear yh1
 have H' := Aside0.mk H
 clear H
 go_enter Tryz.func63, Tryz.ntmps63
 go_wp2_with ((with_reducible refine gate_dst (N := 10) rfl ?_); refine Kd.R_make (Kd.int .u32) _ 80 rfl (N := 10) rfl 78 _ _ rfl j1 rfl rfl Tryz.underlying78 (.int .u32 0) 4 info80 rfl (by decide) (by omega) 0 (ok := fun _ => True) (okp := fun _ => True) rfl (fun _ hk => hk) trivial (of_decide_eq_true zq0) (Nat.le_trans (Nat.mul_le_mul_right _ (of_decide_eq_true zq0 : j1.toNat ≤ 70368744177664)) (by omega)) (Below.refl _ _) (Nat.le_refl _) ?_; intro v1 w2 ho6 hb hg_ hnew_; clear hg_ hnew_; (first | rw [← Y1.out] at ho6 | (simp only [Int.reduceToNat] at ho6; rw [← Y1.out] at ho6)); have O1 := Aside0.mk (Kd.R_lower (Kd.R_newM (M := fun k_ => (w.heap.size ≤ k_)) ho6 (below_size zH) (fun k_ h_ => h_)) (below_size zH)); replace HB := sB hb; clear hb ho6)
 go_loopg [13] k (fun kq v2 w' => ∃ (x1 : List Int) (x2 : Int), v2 = .int .i64 x2 ∧ Aside0 (N1parse.l0 kq a0 x1 (a0.size : Int) x2 = some r) ∧ Aside0 (kq ≤ k) ∧ Aside0 (Kd.R (Kd.int .u32) 80 w' w.heap.size (fun k_ => (w.heap.size ≤ k_)) v1 x1) ∧ Aside0 (Below w.heap.size w w'))
 case atStart => exact ⟨(y1), (0), zq1, H', ⟨Nat.le_refl _⟩, ⟨zq20⟩, ⟨zH⟩⟩
 case round =>
  clear H'
  obtain ⟨x1, x2, rfl, HA, HK1, HO_3, HB⟩ := hrel
  cases gk with
  | zero => exact absurd HA.out (by simp [N1parse.l0])
  | succ k1 =>
   have H := HA.out
   clear HA
   simp only [N1parse.l0] at H
   replace H := iL H
   rcases H with ⟨c3b0, H⟩ | ⟨c3b0, H⟩
   ·obtain ⟨j2, jh2, jh2w⟩ := jI (Int.tdiv x2 4)
    first | rw [jh2] at H | simp only [jh2] at H
    replace ⟨c4b0, H⟩ := iteD H
    replace ⟨c5b0, H⟩ := iteD H
    obtain ⟨j3, jh3, jh3w⟩ := jI ((wrap64 ((a0.size : Int) - 1)) - x2)
    first | rw [jh3] at H | simp only [jh3] at H
    replace ⟨c6b0, H⟩ := iteD H
    replace ⟨c7b0, H⟩ := iteD H
    obtain ⟨j4, jh4, jh4w⟩ := jI (8 * (Int.tmod x2 4))
    first | rw [jh4] at H | simp only [jh4] at H
    replace ⟨c8b0, c8b1, H⟩ := iteE H
    replace ⟨c9b0, c9b1, H⟩ := iteE H
    generalize yh2 : (x1.set ((j2) : Int).toNat (Go.bits .or .u32 (rd x1 (j2)) ((((bt a0 (j3)) % 4294967296) * 2 ^ (j4).toNat) % 4294967296)) : List Int) = y2 at H
    have Y2 := Aside0.mk yh2.symm; clear yh2
    have H' := Aside0.mk H
    clear H
    try go_wp2
    replace HO_3 := rD HO_3
    replace HB := hD HB
    obtain ⟨P1, d1, u1⟩ := Kd.R_slice HO_3.out
    (first | subst u1 | (injection u1 with f1_ f2_ f3_; have f4_ := f1_.symm; have f5_ := f3_.symm; clear f1_ f2_ f3_; subst f4_; subst f5_))
    obtain ⟨ad1, e1, hx1, p1, q1⟩ := atI (Kd.R_reads' HO_3.out).2.2 (j2)
    cases e1
    have p2 : 0 ≤ ((j3) : Int) := of_decide_eq_true zq0
    have q2 : (j3) < (a0.size : Int) := of_decide_eq_true zq0
    have hx2 := bt_at a0 (j3)
    replace p2 := eq_true p2
    replace q2 := eq_true q2
    have p3 : 0 ≤ ((j2) : Int) := of_decide_eq_true zq0
    have q3 : ((j2) : Int) < ((x1.length : Int) : Int) := of_decide_eq_true zq0
    obtain ⟨go1, d2, u2, g1, gl18, cl18, HG18⟩ := Kd.R_form HO_3.out (by omega)
    (first | cases u2 | (injection u2 with ea_ en_ ec_; (first | subst ea_ | (injection ea_ with ea_; subst ea_)); subst ec_; clear en_))
    have GB1 := Aside0.mk g1
    have GG18 := Aside0.mk HG18
    clear g1 gl18 HG18
    (first | simp only [add_plain] at hx1 | skip)
    obtain ⟨hx3, hf18_0⟩ := Kd.R_celln 0 HO_3.out ((j2) : Int) p3 q3
    (try simp only [Go.IntWalk.toNatUp] at hx3 hf18_0)
    replace p3 := eq_true p3
    replace q3 := eq_true q3
    have HP1 := Kd.R_putn HO_3.out ((j2) : Int) (Go.bits .or .u32 (rd x1 (j2)) ((((bt a0 (j3)) % 4294967296) * 2 ^ (j4).toNat) % 4294967296))
    rw [← Y2.out] at HP1
    have HQ21 := Aside0.mk HP1
    clear HP1
    refine startA 20 (S := fun w' => w'.cell? ⟨go1, ((j2)).toNat, none⟩ = some (.int .u32 (rd x1 (j2)))) (ds := [19]) (hx1) (fun hHeld => ?_); refine with_tabW N1parse.tab5 N1parse.bits5 (fun HT_ HW_ => ?_)
    generalize wr.drew = w3 at HO_3 HB GG18 HQ21 hf18_0 hx1 hx3 hHeld ⊢
    refine pA 0 1 ?_
    refine pA 1 3 ?_
    refine pA 2 7 ?_
    refine pA 3 15 ?_
    refine pA 5 47 ?_
    refine pA 6 111 ?_
    refine pA 7 239 ?_
    refine pA 8 495 ?_
    refine pA 9 1007 ?_
    refine pA 10 2031 ?_
    refine pA 13 10223 ?_
    refine pA 14 26607 ?_
    refine pA 15 59375 ?_
    refine take_ (i := 4) (N := some 20) (v := ?_) (a' := ?_) #[true, true, true, true, true, true, true, true, true, true, true, false, false, true, true, true, false, false, false, false] rfl rfl (take_ofW HT_.out HW_.out (by kernel_rfl)) (fun _ _ _ h => h) (Or.inl ⟨by rfl, ?_⟩) hHeld ?_ ?_
    rotate_left
    ·intro w' s0
     go_simp
     with_reducible rfl
    rotate_left
    ·simp only [Act.put, List.setIfInBounds_toArray, List.set_cons_zero, List.set_cons_succ, i64_w, i32_w]
     rfl
    refine take_ (i := 11) (N := some 27) (v := ?_) (a' := ?_) #[true, true, true, true, true, true, true, true, true, true, true, true, false, true, true, true, false, false, false, false] rfl rfl (take_ofW HT_.out HW_.out (by kernel_rfl)) (fun _ _ _ h => h) (Or.inl ⟨by rfl, ?_⟩) hHeld ?_ ?_
    rotate_left
    ·intro w' s0
     go_simp
     with_reducible rfl
    rotate_left
    ·simp only [Act.put, List.setIfInBounds_toArray, List.set_cons_zero, List.set_cons_succ, i64_w, i32_w]
     rfl
    refine pA 12 65535 ?_
    refine pA 16 131071 ?_
    refine pA 17 262143 ?_
    refine pA 18 524287 ?_
    refine last_ (i := 19) (N := none) (lB 20 1048575) rfl rfl (one_of HT_.out (by kernel_rfl)) (by decide) (fun K hK => ?_)
    refine skip_ (w1 := ?_) (by rfl) rfl ?_ ?_
    rotate_left
    ·go_simp
     rfl
    refine hK.out _ _ ?_
    clear hK K
    refine done_ (done_of HT_.out (by kernel_rfl)) ?_
    try go_wp2
    go_roundg k1
    case measure => have := HK1.out; omega
    case rel => exact ⟨(y2), (wrap64 (x2 + 1)), zq1, H', ⟨zq4⟩, ⟨zR⟩, ⟨zH⟩⟩
   ·replace ⟨t1, A1, H⟩ := bS H
    obtain rfl := sI H
    obtain ⟨P1, d1, u1⟩ := Kd.R_slice HO_3.out
    subst u1
    go_wp2_with (refine gR 37 Tryz.func79 (N1limbs_trim.calls k1 (fun k_ => some k_ = (.slice P1 x1.length d1 : Value).ownBlock) _ _ x1 t1 _ ?side1 A1.out) fun v3 w3 ho0 hb => ?_; (case side1 => exact Kd.R_V (Kd.R_tight rfl (HO_3.out))); have O2 := Aside0.mk (Kd.V_lower (Kd.V_mono (ok' := fun k_ => (w.heap.size ≤ k_)) ho0 (fun k_ hk_ => Or.elim hk_ (fun hs_ => ((HO_3.out).1 k_ hs_.symm)) (fun hn_ => (Nat.le_trans (below_size zH) hn_)))) (below_size zH)); replace HO_3 := rB HO_3 hb; replace HB := sB hb; (try clear hb); (try clear ho0))
    go_ret
    exact ⟨_, zq9, zV, zH⟩
def N1limbs_text.l0 : Nat → List Int → List Int → Int → Int → Option (ByteArray)
 | 0, _, _, _, _ => none
 | k + 1, x0, x3, x10, x11 => if x11 < x10 then (if 0 ≤ (wrap64 (Int.tdiv x11 4)) then (if (wrap64 (Int.tdiv x11 4)) < (x0.length : Int) then (if 0 ≤ (wrap64 (8 * (Int.tmod x11 4))) then (if (wrap64 (8 * (Int.tmod x11 4))) ≤ 32 then (if 0 ≤ (wrap64 ((wrap64 ((x3.length : Int) - 1)) - x11)) then (if (wrap64 ((wrap64 ((x3.length : Int) - 1)) - x11)) < (x3.length : Int) then (N1limbs_text.l0 k x0 (x3.set ((wrap64 ((wrap64 ((x3.length : Int) - 1)) - x11)) : Int).toNat (((rd x0 (wrap64 (Int.tdiv x11 4))) / 2 ^ (wrap64 (8 * (Int.tmod x11 4))).toNat) % 256)) x10 (wrap64 (x11 + 1))) else (none)) else (none)) else (none)) else (none)) else (none)) else (none)) else ((N1Normalize.f k (strOfNums x3)).bind fun t126 => (some t126))
def N1limbs_text.f (k : Nat) (l0 : List Int) : Option (ByteArray) := if 0 ≤ (wrap64 ((l0.length : Int) * 4)) then (if (wrap64 ((l0.length : Int) * 4) : Int).toNat ≤ 281474976710656 then ((some (List.replicate (wrap64 ((l0.length : Int) * 4) : Int).toNat 0 : List Int)).bind fun y121 => (N1limbs_text.l0 k l0 y121 (y121.length : Int) 0)) else (none)) else (none)
theorem N1limbs_text.calls (k : Nat) (A0 : Option Addr) (c0 : Nat) (l0 : List Int) (r : ByteArray) (w : World) (hr0 : Kd.C (Kd.int .u32) w A0 l0.length l0) (hc0 : l0.length ≤ c0) (H : N1limbs_text.f k l0 = some r) :
 Calls Tryz.prog 64 #[.slice A0 l0.length c0] w fun e w' => e = .returned (.string r) ∧ Below w.heap.size w w' := by
 have HR0 := Aside0.mk hr0
 have HC0 := Aside0.mk hc0
 clear hr0 hc0
 have HB := Aside0.mk (Below.refl w.heap.size w)
 unfold N1limbs_text.f at H
 obtain ⟨j1, jh1, jh1w⟩ := jI ((l0.length : Int) * 4)
 first | rw [jh1] at H | simp only [jh1] at H
 replace ⟨c1b0, c1b1, H⟩ := iteE H
 replace ⟨c2b0, c2b1, H⟩ := iteE H
 replace ⟨y1, Y1, H⟩ := bY H
 have H' := Aside0.mk H
 clear H
 go_enter Tryz.func64, Tryz.ntmps64
 go_wp2_with ((with_reducible refine gate_dst (N := 8) rfl ?_); refine Kd.R_make (Kd.int .u8) _ 5 rfl (N := 8) rfl 95 _ _ rfl j1 rfl rfl Tryz.underlying95 (.int .u8 0) 1 info5 rfl (by decide) (by omega) 0 (ok := fun _ => True) (okp := fun _ => True) rfl (fun _ hk => hk) trivial (of_decide_eq_true zq0) (Nat.le_trans (Nat.mul_le_mul_right _ (of_decide_eq_true zq0 : j1.toNat ≤ 281474976710656)) (by omega)) (Below.refl _ _) (Nat.le_refl _) ?_; intro v1 w2 ho6 hb hg_ hnew_; clear hg_ hnew_; (first | rw [← Y1.out] at ho6 | (simp only [Int.reduceToNat] at ho6; rw [← Y1.out] at ho6)); have O1 := Aside0.mk (Kd.R_lower ho6 (below_size zH)); replace HB := sB hb; clear hb ho6; obtain ⟨P1, d1, u1⟩ := Kd.R_slice O1.out; subst u1)
 go_loopg [11] k (fun kq v2 w' => ∃ (x1 : List Int) (x2 : Int), v2 = .int .i64 x2 ∧ Aside0 (N1limbs_text.l0 kq l0 x1 (y1.length : Int) x2 = some r) ∧ Aside0 (kq ≤ k) ∧ Aside0 (Kd.R (Kd.int .u8) 5 w' w.heap.size (fun _ => True) (.slice P1 y1.length d1) x1) ∧ Aside0 (Below w.heap.size w w'))
 case atStart => exact ⟨(y1), (0), zq1, H', ⟨Nat.le_refl _⟩, ⟨zR⟩, ⟨zH⟩⟩
 case round =>
  clear H'
  obtain ⟨x1, x2, rfl, HA, HK1, HO_3, HB⟩ := hrel
  have hl3_1 := (Kd.R_reads' HO_3.out).1
  rw [hl3_1] at HO_3
  (try simp only [hl3_1])
  cases gk with
  | zero => exact absurd HA.out (by simp [N1limbs_text.l0])
  | succ k1 =>
   have H := HA.out
   clear HA
   simp only [N1limbs_text.l0] at H
   by_cases c3 : x2 < (y1.length : Int)
   ·rw [if_pos c3] at H
    have c3b0 := decide_eq_true c3
    (try (have c8x0 := c3b0; simp only [hl3_1] at c8x0))
    clear c3
    obtain ⟨j2, jh2, jh2w⟩ := jI (Int.tdiv x2 4)
    first | rw [jh2] at H | simp only [jh2] at H
    replace ⟨c4b0, H⟩ := iteD H
    replace H := of_ite H
    obtain ⟨c5, H⟩ := H
    have c5b0 := decide_eq_true c5
    (try (have c11x0 := c5b0; simp only [hl3_1] at c11x0))
    clear c5
    obtain ⟨j3, jh3, jh3w⟩ := jI (8 * (Int.tmod x2 4))
    first | rw [jh3] at H | simp only [jh3] at H
    replace ⟨c6b0, c6b1, H⟩ := iteE H
    replace ⟨c7b0, c7b1, H⟩ := iteE H
    obtain ⟨j4, jh4, jh4w⟩ := jI ((wrap64 ((x1.length : Int) - 1)) - x2)
    first | rw [jh4] at H | simp only [jh4] at H
    replace ⟨c8b0, H⟩ := iteD H
    replace H := of_ite H
    obtain ⟨c9, H⟩ := H
    have c9b0 := decide_eq_true c9
    (try (have c17x0 := c9b0; simp only [hl3_1] at c17x0))
    clear c9
    generalize yh1 : (x1.set ((j4) : Int).toNat (((rd l0 (j2)) / 2 ^ (j3).toNat) % 256) : List Int) = y2 at H
    have Y2 := Aside0.mk yh1.symm; clear yh1
    have H' := Aside0.mk H
    clear H
    obtain ⟨ad1, e1, hx1, p1, q1⟩ := atI HR0.out (j2)
    cases e1
    (try replace hx1 := hM HB hx1)
    have p2 : 0 ≤ ((j4) : Int) := of_decide_eq_true zq0
    have q2 : ((j4) : Int) < ((x1.length : Int) : Int) := of_decide_eq_true zq0
    obtain ⟨go1, d2, u2, g1, gl18, cl18, HG18⟩ := Kd.R_form HO_3.out (by omega)
    (first | cases u2 | (injection u2 with ea_ en_ ec_; (first | subst ea_ | (injection ea_ with ea_; subst ea_)); subst ec_; clear en_))
    have GB1 := Aside0.mk g1
    have GG18 := Aside0.mk HG18
    clear g1 gl18 HG18
    obtain ⟨hx2, hf18_0⟩ := Kd.R_celln 0 HO_3.out ((j4) : Int) p2 q2
    (try simp only [Go.IntWalk.toNatUp] at hx2 hf18_0)
    replace p2 := eq_true p2
    replace q2 := eq_true q2
    have HP1 := Kd.R_putg HO_3.out ((j4) : Int) (((rd l0 (j2)) / 2 ^ (j3).toNat) % 256)
    go_wp2_with (refine stR 5 30 HP1 Y2 fun w3 hw hg hp_ => ?_; clear HP1; replace HO_3 := Aside0.mk (hp_); replace HB := bS2 hw HB GB1; clear hg hw hp_)
    (try simp only [← hl3_1])
    go_roundg k1
    case measure => have := HK1.out; omega
    case rel => exact ⟨(y2), (wrap64 (x2 + 1)), zq1, H', ⟨zq4⟩, ⟨by (try simp only [hl3_1]); (with_reducible repeat (first | apply Kd.R_alloc | apply Kd.R_drewN | apply Kd.R_drew)); exact HO_3.out⟩, ⟨zH⟩⟩
   ·rw [if_neg c3] at H
    have c3b0 := decide_eq_false c3
    (try (have c8x0 := c3b0; simp only [hl3_1] at c8x0))
    clear c3
    replace ⟨t1, A1, H⟩ := bS H
    obtain rfl := sI H
    have hcv22 := own_string (P := Tryz.prog) Tryz.underlying95 Tryz.underlying5 Tryz.underlying9 (Kd.own_of_R HO_3.out)
    go_wp2_with (refine gD 34 Tryz.func60 (N1Normalize.calls _ _ _ _ A1.out) fun nd => ?_)
    go_ret
    exact ⟨zq9, zH⟩
def N1sign.f (a0 : Int) : Option (Int) := if a0 < 0 then (some (-1)) else (if a0 > 0 then (some 1) else (some 0))
theorem N1sign.calls (a0 r : Int) (w : World) (H : N1sign.f a0 = some r) :
 Calls Tryz.prog 83 #[.int .i64 a0] w fun e w' => e = .returned (.int .i64 r) ∧ Drawn0 w w' := by
 unfold N1sign.f at H
 replace H := iL H
 rcases H with ⟨c1b0, H⟩ | ⟨c1b0, H⟩
 obtain rfl := sI H
 rotate_left
 replace H := iL H
 rcases H with ⟨c2b0, H⟩ | ⟨c2b0, H⟩
 obtain rfl := sI H
 rotate_left
 obtain rfl := sI H
 rotate_left
 all_goals
  go_enter Tryz.func83, Tryz.ntmps83
  go_wp2
  go_ret
  exact ⟨zq1, zq7⟩
def N1compare.l0 : Nat → List Int → List Int → Int → Option (Int)
 | 0, _, _, _ => none
 | k + 1, x0, x1, x5 => if x5 ≥ 0 then (if 0 ≤ x5 then (if x5 < (x0.length : Int) then (if x5 < (x1.length : Int) then (if (rd x0 x5) = (rd x1 x5) then (N1compare.l0 k x0 x1 (wrap64 (x5 - 1))) else (if (rd x0 x5) < (rd x1 x5) then (some (-1)) else (some 1))) else (none)) else (none)) else (none)) else (some 0)
def N1compare.f (k : Nat) (l0 l1 : List Int) : Option (Int) := if (l0.length : Int) = (l1.length : Int) then (N1compare.l0 k l0 l1 (wrap64 ((l0.length : Int) - 1))) else ((N1sign.f (wrap64 ((l0.length : Int) - (l1.length : Int)))).bind fun t127 => (some t127))
theorem N1compare.calls (k : Nat) (A0 : Option Addr) (c0 : Nat) (l0 : List Int) (A1 : Option Addr) (c1 : Nat) (l1 : List Int) (r : Int) (w : World) (hr0 : Kd.C (Kd.int .u32) w A0 l0.length l0) (hc0 : l0.length ≤ c0) (hr1 : Kd.C (Kd.int .u32) w A1 l1.length l1) (hc1 : l1.length ≤ c1) (H : N1compare.f k l0 l1 = some r) :
 Calls Tryz.prog 75 #[.slice A0 l0.length c0, .slice A1 l1.length c1] w fun e w' => e = .returned (.int .i64 r) ∧ Drawn0 w w' := by
 have HR0 := Aside0.mk hr0
 have HC0 := Aside0.mk hc0
 clear hr0 hc0
 have HR1 := Aside0.mk hr1
 have HC1 := Aside0.mk hc1
 clear hr1 hc1
 unfold N1compare.f at H
 by_cases c2 : (l0.length : Int) = (l1.length : Int)
 ·rw [if_pos c2] at H
  have c2b0 := beq_iff_eq.mpr c2
  have c2b1 : ((l0.length : Int) != (l1.length : Int)) = false := bne_eq_false_iff_eq.mpr c2
  have c2b2 : (l0.length == l1.length) = true := by first | simpa using c2 | (simp at c2 ⊢; omega)
  clear c2
  have H' := Aside0.mk H
  clear H
  go_enter Tryz.func75, Tryz.ntmps75
  go_wp2
  repeat (go_quiet (fail); try go_wp2)
  go_loopg [5] k (fun kq v1 w' => ∃ (x1 : Int), v1 = .int .i64 x1 ∧ Aside0 (N1compare.l0 kq l0 l1 x1 = some r) ∧ Aside0 (kq ≤ k) ∧ Drawn0 w w')
  case atStart => exact ⟨(wrap64 ((l0.length : Int) - 1)), zq1, H', ⟨Nat.le_refl _⟩, zq7⟩
  case round =>
   clear H'
   obtain ⟨x1, rfl, HA, HK1, ⟨m1, rfl⟩⟩ := hrel
   cases gk with
   | zero => exact absurd HA.out (by simp [N1compare.l0])
   | succ k1 =>
    have H := HA.out
    clear HA
    simp only [N1compare.l0] at H
    replace H := iL H
    rcases H with ⟨c3b0, H⟩ | ⟨c3b0, H⟩
    ·replace ⟨c4b0, H⟩ := iteD H
     replace ⟨c5b0, H⟩ := iteD H
     replace ⟨c6b0, H⟩ := iteD H
     replace H := iQ H
     rcases H with ⟨c7b0, c7b1, H⟩ | ⟨c7b0, c7b1, H⟩
     ·have H' := Aside0.mk H
      clear H
      obtain ⟨ad1, e1, hx1, p1, q1⟩ := atI HR0.out x1
      cases e1
      obtain ⟨ad2, e2, hx2, p2, q2⟩ := atI HR1.out x1
      cases e2
      go_wp2
      repeat (go_quiet (fail); try go_wp2)
      go_roundg k1
      case measure => have := HK1.out; omega
      case rel => exact ⟨(wrap64 (x1 - 1)), zq1, H', ⟨zq4⟩, zq7⟩
     ·replace H := iL H
      rcases H with ⟨c8b0, H⟩ | ⟨c8b0, H⟩
      obtain rfl := sI H
      obtain ⟨ad1, e1, hx1, p1, q1⟩ := atI HR0.out x1
      cases e1
      obtain ⟨ad2, e2, hx2, p2, q2⟩ := atI HR1.out x1
      cases e2
      obtain ⟨ad3, e3, hx3, p3, q3⟩ := atI HR0.out x1
      obtain rfl : ad1 = ad3 := (by injection e3)
      obtain ⟨ad4, e4, hx4, p4, q4⟩ := atI HR1.out x1
      obtain rfl : ad2 = ad4 := (by injection e4)
      rotate_left
      obtain rfl := sI H
      obtain ⟨ad1, e1, hx1, p1, q1⟩ := atI HR0.out x1
      cases e1
      obtain ⟨ad2, e2, hx2, p2, q2⟩ := atI HR1.out x1
      cases e2
      obtain ⟨ad3, e3, hx3, p3, q3⟩ := atI HR0.out x1
      obtain rfl : ad1 = ad3 := (by injection e3)
      obtain ⟨ad4, e4, hx4, p4, q4⟩ := atI HR1.out x1
      obtain rfl : ad2 = ad4 := (by injection e4)
      rotate_left
      all_goals
       go_wp2
       repeat (go_quiet (fail); try go_wp2)
       go_ret
       exact ⟨zq1, zq7⟩
    ·obtain rfl := sI H
     go_wp2
     repeat (go_quiet (fail); try go_wp2)
     go_ret
     exact ⟨zq1, zq7⟩
 ·rw [if_neg c2] at H
  have c2b0 := beq_eq_false_iff_ne.mpr c2
  have c2b1 := bne_iff_ne.mpr c2
  have c2b2 : (l0.length == l1.length) = false := by first | simpa using c2 | (simp at c2 ⊢; omega)
  replace ⟨t1, A2, H⟩ := bS H
  obtain rfl := sI H
  go_enter Tryz.func75, Tryz.ntmps75
  go_wp2_with (go_at_call 83; (with_reducible refine (N1sign.calls (H := A2.out) ..).mono ?_); rintro e w' ⟨rfl, ⟨nd, rfl⟩⟩; (try exact dN))
  repeat (go_quiet ((go_at_call 83; (with_reducible refine (N1sign.calls (H := A2.out) ..).mono ?_); rintro e w' ⟨rfl, ⟨nd, rfl⟩⟩; (try exact dN))); try go_wp2_with (go_at_call 83; (with_reducible refine (N1sign.calls (H := A2.out) ..).mono ?_); rintro e w' ⟨rfl, ⟨nd, rfl⟩⟩; (try exact dN)))
  go_ret
  exact ⟨zq1, zq7⟩
def N1divideSmall.l0 : Nat → List Int → Int → List Int → Int → Int → Option (List Int × Int)
 | 0, _, _, _, _, _ => none
 | k + 1, x0, x1, x6, x7, x8 => if x8 ≥ 0 then (if 0 ≤ x8 then (if x8 < (x0.length : Int) then (if (IntKind.u64.wrap (x1)) = 0 then (none) else (if x8 < (x6.length : Int) then (N1divideSmall.l0 k x0 x1 (x6.set (x8 : Int).toNat ((IntKind.u64.wrap (Int.tdiv (Go.bits .or .u64 (IntKind.u64.wrap (x7 * 4294967296)) (IntKind.u64.wrap (rd x0 x8))) (IntKind.u64.wrap (x1)))) % 4294967296)) (Int.tmod (Go.bits .or .u64 (IntKind.u64.wrap (x7 * 4294967296)) (IntKind.u64.wrap (rd x0 x8))) (IntKind.u64.wrap (x1))) (wrap64 (x8 - 1))) else (none))) else (none)) else (none)) else ((N1limbs_trim.f k x6).bind fun t137 => (some (t137, (x7) % 4294967296)))
def N1divideSmall.f (k : Nat) (l0 : List Int) (a1 : Int) : Option (List Int × Int) := if 0 ≤ (l0.length : Int) then (if ((l0.length : Int) : Int).toNat ≤ 70368744177664 then (N1divideSmall.l0 k l0 a1 (List.replicate ((l0.length : Int) : Int).toNat 0) 0 (wrap64 ((l0.length : Int) - 1))) else (none)) else (none)
theorem N1divideSmall.calls (k : Nat) (A0 : Option Addr) (c0 : Nat) (l0 : List Int) (a1 : Int) (r1 : List Int) (r2 : Int) (w : World) (hr0 : Kd.C (Kd.int .u32) w A0 l0.length l0) (hc0 : l0.length ≤ c0) (H : N1divideSmall.f k l0 a1 = some (r1, r2)) :
 Calls Tryz.prog 89 #[.slice A0 l0.length c0, .int .u32 a1] w fun e w' => ∃ v0_ : Value, e = .returned (.tuple #[v0_, .int .u32 r2]) ∧ Kd.V (Kd.int .u32) 80 w' w.heap.size (fun k_ => (w.heap.size ≤ k_)) v0_ r1 ∧ Below w.heap.size w w' := by
 have HR0 := Aside0.mk hr0
 have HC0 := Aside0.mk hc0
 clear hr0 hc0
 have HB := Aside0.mk (Below.refl w.heap.size w)
 unfold N1divideSmall.f at H
 replace ⟨c1b0, c1b1, H⟩ := iteE H
 replace ⟨c2b0, c2b1, H⟩ := iteE H
 generalize yh1 : (List.replicate ((l0.length : Int) : Int).toNat 0 : List Int) = y1 at H
 have Y1 := Aside0.mk yh1.symm; clear yh1
 have H' := Aside0.mk H
 clear H
 go_enter Tryz.func89, Tryz.ntmps89
 go_wp2_with ((with_reducible refine gate_dst (N := 12) rfl ?_); refine Kd.R_make (Kd.int .u32) _ 80 rfl (N := 12) rfl 78 _ _ rfl (l0.length : Int) rfl rfl Tryz.underlying78 (.int .u32 0) 4 info80 rfl (by decide) (by omega) 0 (ok := fun _ => True) (okp := fun _ => True) rfl (fun _ hk => hk) trivial (of_decide_eq_true zq0) (Nat.le_trans (Nat.mul_le_mul_right _ (of_decide_eq_true zq0 : (l0.length : Int).toNat ≤ 70368744177664)) (by omega)) (Below.refl _ _) (Nat.le_refl _) ?_; intro v1 w2 ho6 hb hg_ hnew_; clear hg_ hnew_; (first | rw [← Y1.out] at ho6 | (simp only [Int.reduceToNat] at ho6; rw [← Y1.out] at ho6)); have O1 := Aside0.mk (Kd.R_lower (Kd.R_newM (M := fun k_ => (w.heap.size ≤ k_)) ho6 (below_size zH) (fun k_ h_ => h_)) (below_size zH)); replace HB := sB hb; clear hb ho6)
 go_loopg [7, 8] k (fun kq v2 v3 w' => ∃ (x1 : List Int) (x2 : Int) (x3 : Int), v2 = .int .u64 x2 ∧ v3 = .int .i64 x3 ∧ Aside0 (N1divideSmall.l0 kq l0 a1 x1 x2 x3 = some (r1, r2)) ∧ Aside0 (kq ≤ k) ∧ Aside0 (Kd.R (Kd.int .u32) 80 w' w.heap.size (fun k_ => (w.heap.size ≤ k_)) v1 x1) ∧ Aside0 (Below w.heap.size w w'))
 case atStart => exact ⟨(y1), (0), (wrap64 ((l0.length : Int) - 1)), zq1, zq1, H', ⟨Nat.le_refl _⟩, ⟨zq20⟩, ⟨zH⟩⟩
 case round =>
  clear H'
  obtain ⟨x1, x2, x3, rfl, rfl, HA, HK1, HO_6, HB⟩ := hrel
  cases gk with
  | zero => exact absurd HA.out (by simp [N1divideSmall.l0])
  | succ k1 =>
   have H := HA.out
   clear HA
   simp only [N1divideSmall.l0] at H
   replace H := iL H
   rcases H with ⟨c3b0, H⟩ | ⟨c3b0, H⟩
   ·replace ⟨c4b0, H⟩ := iteD H
    replace ⟨c5b0, H⟩ := iteD H
    by_cases c6 : (IntKind.u64.wrap (a1)) = 0
    ·rw [if_pos c6] at H
     exact absurd H (by simp)
    ·rw [if_neg c6] at H
     have c6b0 := beq_eq_false_iff_ne.mpr c6
     have c6b1 := bne_iff_ne.mpr c6
     replace ⟨c7b0, H⟩ := iteD H
     generalize yh2 : (x1.set (x3 : Int).toNat ((IntKind.u64.wrap (Int.tdiv (Go.bits .or .u64 (IntKind.u64.wrap (x2 * 4294967296)) (IntKind.u64.wrap (rd l0 x3))) (IntKind.u64.wrap (a1)))) % 4294967296) : List Int) = y2 at H
     have Y2 := Aside0.mk yh2.symm; clear yh2
     have H' := Aside0.mk H
     clear H
     obtain ⟨ad1, e1, hx1, p1, q1⟩ := atI HR0.out x3
     cases e1
     (try replace hx1 := hM HB hx1)
     have p2 : 0 ≤ (x3 : Int) := of_decide_eq_true zq0
     have q2 : (x3 : Int) < ((x1.length : Int) : Int) := of_decide_eq_true zq0
     obtain ⟨go1, d1, u1, g1, gl12, cl12, HG12⟩ := Kd.R_form HO_6.out (by omega)
     (first | cases u1 | (injection u1 with ea_ en_ ec_; (first | subst ea_ | (injection ea_ with ea_; subst ea_)); subst ec_; clear en_))
     have GB1 := Aside0.mk g1
     have GG12 := Aside0.mk HG12
     clear g1 gl12 HG12
     obtain ⟨hx2, hf12_0⟩ := Kd.R_celln 0 HO_6.out (x3 : Int) p2 q2
     (try simp only [Go.IntWalk.toNatUp] at hx2 hf12_0)
     replace p2 := eq_true p2
     replace q2 := eq_true q2
     have HP1 := Kd.R_putg HO_6.out (x3 : Int) ((IntKind.u64.wrap (Int.tdiv (Go.bits .or .u64 (IntKind.u64.wrap (x2 * 4294967296)) (IntKind.u64.wrap (rd l0 x3))) (IntKind.u64.wrap (a1)))) % 4294967296)
     go_wp2_with (refine stR 80 35 HP1 Y2 fun w3 hw hg hp_ => ?_; clear HP1; replace HO_6 := Aside0.mk (hp_); replace HB := bS2 hw HB GB1; clear hg hw hp_)
     go_roundg k1
     case measure => have := HK1.out; omega
     case rel => exact ⟨(y2), (Int.tmod (Go.bits .or .u64 (IntKind.u64.wrap (x2 * 4294967296)) (IntKind.u64.wrap (rd l0 x3))) (IntKind.u64.wrap (a1))), (wrap64 (x3 - 1)), zq1, zq1, H', ⟨zq4⟩, ⟨zR⟩, ⟨zH⟩⟩
   ·replace ⟨t1, A1, H⟩ := bS H
    simp only [Option.some.injEq, Prod.mk.injEq] at H
    obtain ⟨rfl, rfl⟩ := H
    obtain ⟨P1, d1, u1⟩ := Kd.R_slice HO_6.out
    subst u1
    go_wp2_with (refine gR 41 Tryz.func79 (N1limbs_trim.calls k1 (fun k_ => some k_ = (.slice P1 x1.length d1 : Value).ownBlock) _ _ x1 t1 _ ?side1 A1.out) fun v4 w3 ho0 hb => ?_; (case side1 => exact Kd.R_V (Kd.R_tight rfl (HO_6.out))); have O2 := Aside0.mk (Kd.V_lower (Kd.V_mono (ok' := fun k_ => (w.heap.size ≤ k_)) ho0 (fun k_ hk_ => Or.elim hk_ (fun hs_ => ((HO_6.out).1 k_ hs_.symm)) (fun hn_ => (Nat.le_trans (below_size zH) hn_)))) (below_size zH)); replace HO_6 := rB HO_6 hb; replace HB := sB hb; (try clear hb); (try clear ho0))
    go_ret2
    exact ⟨_, zE, zV, zH⟩
def bits_LeadingZeros32.f (a0 : Int) : Option (Int) := if 0 ≤ a0 ∧ a0 ≤ 4294967295 then (some (32 - (Lib.bitLen a0.toNat : Int))) else (none)
theorem bits_LeadingZeros32.calls (a0 r : Int) (w : World) (h : bits_LeadingZeros32.f a0 = some r) :
 Calls Tryz.prog 90 #[.int .u32 a0] w fun e w' => e = .returned (.int .i64 r) ∧ Drawn0 w w' := by
 unfold bits_LeadingZeros32.f at h
 split at h
 ·rename_i h1
  obtain rfl := Option.some.inj h
  refine (Tryz.bits_LeadingZeros32 a0 w h1.1 h1.2).mono ?_
  rintro e w' ⟨rfl, rfl⟩
  exact ⟨rfl, Drawn0.refl _⟩
 ·cases h
def N1shift.l0 : Nat → Int → Int → List Int → List Int → Int → Int → Option (List Int)
 | 0, _, _, _, _, _, _ => none
 | k + 1, x1, x2, x7, x13, x14, x15 => if x15 < x14 then (if 0 ≤ x15 then (if x15 < (x13.length : Int) then (if 0 ≤ x1 then (if x1 ≤ 64 then (if x15 < (x7.length : Int) then ((some (x7.set (x15 : Int).toNat (Go.bits .or .u32 (rd x7 x15) ((IntKind.u64.wrap ((IntKind.u64.wrap (rd x13 x15)) * 2 ^ x1.toNat)) % 4294967296)) : List Int)).bind fun y145 => (if (wrap64 (x15 + 1)) < x2 then (if 0 ≤ (wrap64 (x15 + 1)) then (if (wrap64 (x15 + 1)) < (x7.length : Int) then (N1shift.l0 k x1 x2 (y145.set ((wrap64 (x15 + 1)) : Int).toNat (Go.bits .or .u32 (rd y145 (wrap64 (x15 + 1))) (((IntKind.u64.wrap ((IntKind.u64.wrap (rd x13 x15)) * 2 ^ x1.toNat)) / 4294967296) % 4294967296))) x13 x14 (wrap64 (x15 + 1))) else (none)) else (none)) else (N1shift.l0 k x1 x2 y145 x13 x14 (wrap64 (x15 + 1))))) else (none)) else (none)) else (none)) else (none)) else (none)) else (some x7)
def N1shift.f (k : Nat) (l0 : List Int) (a1 a2 : Int) : Option (List Int) := if 0 ≤ a2 then (if (a2 : Int).toNat ≤ 70368744177664 then (N1shift.l0 k a1 a2 (List.replicate (a2 : Int).toNat 0) l0 (l0.length : Int) 0) else (none)) else (none)
theorem N1shift.calls (k : Nat) (A0 : Option Addr) (c0 : Nat) (l0 : List Int) (a1 a2 : Int) (r : List Int) (w : World) (hr0 : Kd.C (Kd.int .u32) w A0 l0.length l0) (hc0 : l0.length ≤ c0) (H : N1shift.f k l0 a1 a2 = some r) :
 Calls Tryz.prog 91 #[.slice A0 l0.length c0, .int .u64 a1, .int .i64 a2] w fun e w' => ∃ v0_ : Value, e = .returned (v0_) ∧ Kd.R (Kd.int .u32) 80 w' w.heap.size (fun _ => True) v0_ r ∧ Below w.heap.size w w' := by
 have HR0 := Aside0.mk hr0
 have HC0 := Aside0.mk hc0
 clear hr0 hc0
 have HB := Aside0.mk (Below.refl w.heap.size w)
 unfold N1shift.f at H
 replace ⟨c1b0, c1b1, H⟩ := iteE H
 replace ⟨c2b0, c2b1, H⟩ := iteE H
 generalize yh1 : (List.replicate (a2 : Int).toNat 0 : List Int) = y1 at H
 have Y1 := Aside0.mk yh1.symm; clear yh1
 have H' := Aside0.mk H
 clear H
 go_enter Tryz.func91, Tryz.ntmps91
 go_wp2_with ((with_reducible refine gate_dst (N := 12) rfl ?_); refine Kd.R_make (Kd.int .u32) _ 80 rfl (N := 12) rfl 78 _ _ rfl a2 rfl rfl Tryz.underlying78 (.int .u32 0) 4 info80 rfl (by decide) (by omega) 0 (ok := fun _ => True) (okp := fun _ => True) rfl (fun _ hk => hk) trivial (of_decide_eq_true zq0) (Nat.le_trans (Nat.mul_le_mul_right _ (of_decide_eq_true zq0 : a2.toNat ≤ 70368744177664)) (by omega)) (Below.refl _ _) (Nat.le_refl _) ?_; intro v1 w2 ho7 hb hg_ hnew_; clear hg_ hnew_; (first | rw [← Y1.out] at ho7 | (simp only [Int.reduceToNat] at ho7; rw [← Y1.out] at ho7)); have O1 := Aside0.mk (Kd.R_lower ho7 (below_size zH)); replace HB := sB hb; clear hb ho7)
 go_loopg [15] k (fun kq v2 w' => ∃ (x1 : List Int) (x2 : Int), v2 = .int .i64 x2 ∧ Aside0 (N1shift.l0 kq a1 a2 x1 l0 (l0.length : Int) x2 = some r) ∧ Aside0 (kq ≤ k) ∧ Aside0 (Kd.R (Kd.int .u32) 80 w' w.heap.size (fun _ => True) v1 x1) ∧ Aside0 (Below w.heap.size w w'))
 case atStart => exact ⟨(y1), (0), zq1, H', ⟨Nat.le_refl _⟩, ⟨zR⟩, ⟨zH⟩⟩
 case round =>
  clear H'
  obtain ⟨x1, x2, rfl, HA, HK1, HO_7, HB⟩ := hrel
  cases gk with
  | zero => exact absurd HA.out (by simp [N1shift.l0])
  | succ k1 =>
   have H := HA.out
   clear HA
   simp only [N1shift.l0] at H
   replace H := iL H
   rcases H with ⟨c3b0, H⟩ | ⟨c3b0, H⟩
   ·replace ⟨c4b0, H⟩ := iteD H
    replace ⟨c5b0, H⟩ := iteD H
    replace ⟨c6b0, c6b1, H⟩ := iteE H
    replace ⟨c7b0, c7b1, H⟩ := iteE H
    replace ⟨c8b0, H⟩ := iteD H
    replace ⟨y2, Y2, H⟩ := bY H
    replace H := iL H
    rcases H with ⟨c9b0, H⟩ | ⟨c9b0, H⟩
    ·obtain ⟨j1, jh1, jh1w⟩ := jI (x2 + 1)
     first | rw [jh1] at H | simp only [jh1] at H
     (try rw [jh1] at c9b0)
     replace ⟨c10b0, H⟩ := iteD H
     replace ⟨c11b0, H⟩ := iteD H
     generalize yh2 : (y2.set ((j1) : Int).toNat (Go.bits .or .u32 (rd y2 (j1)) (((IntKind.u64.wrap ((IntKind.u64.wrap (rd l0 x2)) * 2 ^ a1.toNat)) / 4294967296) % 4294967296)) : List Int) = y3 at H
     have Y3 := Aside0.mk yh2.symm; clear yh2
     have H' := Aside0.mk H
     clear H
     obtain ⟨ad1, e1, hx1, p1, q1⟩ := atI HR0.out x2
     cases e1
     (try replace hx1 := hM HB hx1)
     obtain ⟨P1, d1, u1⟩ := Kd.R_slice HO_7.out
     subst u1
     obtain ⟨ad2, e2, hx2, p2, q2⟩ := atI (Kd.R_reads' HO_7.out).2.2 x2
     cases e2
     have p3 : 0 ≤ (x2 : Int) := of_decide_eq_true zq0
     have q3 : (x2 : Int) < ((x1.length : Int) : Int) := of_decide_eq_true zq0
     obtain ⟨go1, d2, u2, g1, gl14, cl14, HG14⟩ := Kd.R_form HO_7.out (by omega)
     (first | cases u2 | (injection u2 with ea_ en_ ec_; (first | subst ea_ | (injection ea_ with ea_; subst ea_)); subst ec_; clear en_))
     have GB1 := Aside0.mk g1
     have GG14 := Aside0.mk HG14
     clear g1 gl14 HG14
     (first | simp only [add_plain] at hx2 | skip)
     obtain ⟨hx3, hf14_0⟩ := Kd.R_celln 0 HO_7.out (x2 : Int) p3 q3
     (try simp only [Go.IntWalk.toNatUp] at hx3 hf14_0)
     replace p3 := eq_true p3
     replace q3 := eq_true q3
     have HP1 := Kd.R_putg HO_7.out (x2 : Int) (Go.bits .or .u32 (rd x1 x2) ((IntKind.u64.wrap ((IntKind.u64.wrap (rd l0 x2)) * 2 ^ a1.toNat)) % 4294967296))
     go_wp2_with (first | (refine stR 80 31 HP1 Y2 fun w3 hw hg hp_ => ?_; clear HP1; replace HO_7 := Aside0.mk (hp_); replace HB := bS2 hw HB GB1; clear hg hw hp_; have p4 : 0 ≤ ((j1) : Int) := of_decide_eq_true zq0; have q4 : (j1) < (y2.length : Int) := (by have h_ : ((j1) : Int) < ((x1.length : Int) : Int) := of_decide_eq_true zq0; first | (have e_ := (Kd.R_reads' HO_7.out).1; omega) | simpa only [Y2.out, List.length_set] using h_); have ql146 : (((j1) : Int) < ((x1.length : Int) : Int)) = True := eq_true (of_decide_eq_true zq0); obtain ⟨ad3, e3, hx4⟩ := Kd.at_int (Kd.R_reads' HO_7.out).2.2 (j1) p4 q4; obtain rfl : (⟨go1, 0, none⟩ : Addr) = ad3 := (by injection e3); (first | simp only [add_plain] at hx4 | simp only [add_at] at hx4 | simp only [Addr.add, Nat.zero_add] at hx4 | skip); replace p4 := eq_true p4; replace q4 := eq_true q4; have p5 : 0 ≤ ((j1) : Int) := of_decide_eq_true zq0; have q5 : ((j1) : Int) < ((x1.length : Int) : Int) := of_decide_eq_true zq0; obtain ⟨hx5, hf19_0⟩ := Kd.R_celln 0 HO_7.out ((j1) : Int) p5 q5; replace p5 := eq_true p5; replace q5 := eq_true q5; obtain ⟨hy23_, hz23_⟩ := Kd.R_celln 0 HO_7.out ((j1) : Int) (of_decide_eq_true zq0) (of_decide_eq_true zq0); have HP2 := Kd.R_putg HO_7.out ((j1) : Int) (Go.bits .or .u32 (rd y2 (j1)) (((IntKind.u64.wrap ((IntKind.u64.wrap (rd l0 x2)) * 2 ^ a1.toNat)) / 4294967296) % 4294967296))) | (refine stR 80 45 HP2 Y3 fun w4 hw hg hp_ => ?_; clear HP2; replace HO_7 := Aside0.mk (hp_); replace HB := bS2 hw HB GB1; clear hg hw hp_))
     go_roundg k1
     case measure => have := HK1.out; omega
     case rel => exact ⟨(y3), (j1), zq15, H', ⟨zq4⟩, ⟨zR⟩, ⟨zH⟩⟩
    ·have H' := Aside0.mk H
     clear H
     obtain ⟨ad1, e1, hx1, p1, q1⟩ := atI HR0.out x2
     cases e1
     (try replace hx1 := hM HB hx1)
     obtain ⟨P1, d1, u1⟩ := Kd.R_slice HO_7.out
     subst u1
     obtain ⟨ad2, e2, hx2, p2, q2⟩ := atI (Kd.R_reads' HO_7.out).2.2 x2
     cases e2
     have p3 : 0 ≤ (x2 : Int) := of_decide_eq_true zq0
     have q3 : (x2 : Int) < ((x1.length : Int) : Int) := of_decide_eq_true zq0
     obtain ⟨go1, d2, u2, g1, gl14, cl14, HG14⟩ := Kd.R_form HO_7.out (by omega)
     (first | cases u2 | (injection u2 with ea_ en_ ec_; (first | subst ea_ | (injection ea_ with ea_; subst ea_)); subst ec_; clear en_))
     have GB1 := Aside0.mk g1
     have GG14 := Aside0.mk HG14
     clear g1 gl14 HG14
     (first | simp only [add_plain] at hx2 | skip)
     obtain ⟨hx3, hf14_0⟩ := Kd.R_celln 0 HO_7.out (x2 : Int) p3 q3
     (try simp only [Go.IntWalk.toNatUp] at hx3 hf14_0)
     replace p3 := eq_true p3
     replace q3 := eq_true q3
     have HP1 := Kd.R_putg HO_7.out (x2 : Int) (Go.bits .or .u32 (rd x1 x2) ((IntKind.u64.wrap ((IntKind.u64.wrap (rd l0 x2)) * 2 ^ a1.toNat)) % 4294967296))
     go_wp2_with (refine stR 80 31 HP1 Y2 fun w3 hw hg hp_ => ?_; clear HP1; replace HO_7 := Aside0.mk (hp_); replace HB := bS2 hw HB GB1; clear hg hw hp_)
     go_roundg k1
     case measure => have := HK1.out; omega
     case rel => exact ⟨(y2), (wrap64 (x2 + 1)), zq1, H', ⟨zq4⟩, ⟨zR⟩, ⟨zH⟩⟩
   ·obtain rfl := sI H
    go_wp2
    go_ret
    exact ⟨_, zE, zR, zH⟩
def bits_Add32.f (a0 a1 a2 : Int) : Option (Int × Int) := some ((IntKind.u64.wrap ((IntKind.u64.wrap ((IntKind.u64.wrap (a0)) + (IntKind.u64.wrap (a1)))) + (IntKind.u64.wrap (a2)))) % 4294967296, ((IntKind.u64.wrap ((IntKind.u64.wrap ((IntKind.u64.wrap (a0)) + (IntKind.u64.wrap (a1)))) + (IntKind.u64.wrap (a2)))) / 4294967296) % 4294967296)
theorem bits_Add32.calls (a0 a1 a2 r1 r2 : Int) (w : World) (H : bits_Add32.f a0 a1 a2 = some (r1, r2)) :
 Calls Tryz.prog 74 #[.int .u32 a0, .int .u32 a1, .int .u32 a2] w fun e w' => e = .returned (.tuple #[.int .u32 r1, .int .u32 r2]) ∧ Drawn0 w w' := by
 unfold bits_Add32.f at H
 simp only [Option.some.injEq, Prod.mk.injEq] at H
 obtain ⟨rfl, rfl⟩ := H
 go_enter Tryz.func74, Tryz.ntmps74
 go_wp2
 go_ret2
 exact ⟨zq1, zq7⟩
def bits_Sub32.f (a0 a1 a2 : Int) : Option (Int × Int) := some ((((a0 - a1) % 4294967296) - a2) % 4294967296, (Go.bits .or .u32 (Go.bits .and .u32 (Go.bits .xor .u32 4294967295 a0) a1) (Go.bits .and .u32 (Go.bits .xor .u32 4294967295 (Go.bits .xor .u32 a0 a1)) ((((a0 - a1) % 4294967296) - a2) % 4294967296))) / 2147483648)
theorem bits_Sub32.calls (a0 a1 a2 r1 r2 : Int) (w : World) (H : bits_Sub32.f a0 a1 a2 = some (r1, r2)) :
 Calls Tryz.prog 84 #[.int .u32 a0, .int .u32 a1, .int .u32 a2] w fun e w' => e = .returned (.tuple #[.int .u32 r1, .int .u32 r2]) ∧ Drawn0 w w' := by
 unfold bits_Sub32.f at H
 simp only [Option.some.injEq, Prod.mk.injEq] at H
 obtain ⟨rfl, rfl⟩ := H
 go_enter Tryz.func84, Tryz.ntmps84
 go_wp2
 go_ret2
 exact ⟨zq1, zq7⟩
mutual
def N1Multiply.l0 : Nat → List Int → List Int → List Int → Int → Int → Option (ByteArray)
 | 0, _, _, _, _, _ => none
 | k + 1, x6, x7, x24, x25, x26 => if x26 < x25 then (if 0 ≤ x26 then (if x26 < (x24.length : Int) then (N1Multiply.l1 k x6 x7 x26 (rd x24 x26) 0 x24 x25 x26 x6 (x6.length : Int) 0) else (none)) else (none)) else ((N1limbs_text.f k x7).bind fun t303 => (some t303))
def N1Multiply.l1 : Nat → List Int → List Int → Int → Int → Int → List Int → Int → Int → List Int → Int → Int → Option (ByteArray)
 | 0, _, _, _, _, _, _, _, _, _, _, _ => none
 | k + 1, x6, x7, x8, x9, x10, x24, x25, x26, x31, x32, x33 => if x33 < x32 then (if 0 ≤ x33 then (if x33 < (x31.length : Int) then (if 0 ≤ (wrap64 (x8 + x33)) then (if (wrap64 (x8 + x33)) < (x7.length : Int) then (N1Multiply.l1 k x6 (x7.set ((wrap64 (x8 + x33)) : Int).toNat ((IntKind.u64.wrap ((IntKind.u64.wrap ((IntKind.u64.wrap ((IntKind.u64.wrap (x9)) * (IntKind.u64.wrap (rd x31 x33)))) + (IntKind.u64.wrap (rd x7 (wrap64 (x8 + x33)))))) + x10)) % 4294967296)) x8 x9 ((IntKind.u64.wrap ((IntKind.u64.wrap ((IntKind.u64.wrap ((IntKind.u64.wrap (x9)) * (IntKind.u64.wrap (rd x31 x33)))) + (IntKind.u64.wrap (rd x7 (wrap64 (x8 + x33)))))) + x10)) / 4294967296) x24 x25 x26 x31 x32 (wrap64 (x33 + 1))) else (none)) else (none)) else (none)) else (none)) else (if 0 ≤ (wrap64 (x8 + (x6.length : Int))) then (if (wrap64 (x8 + (x6.length : Int))) < (x7.length : Int) then (N1Multiply.l0 k x6 (x7.set ((wrap64 (x8 + (x6.length : Int))) : Int).toNat ((x10) % 4294967296)) x24 x25 (wrap64 (x26 + 1))) else (none)) else (none))
end
def N1Multiply.f (k : Nat) (a0 a1 : ByteArray) : Option (ByteArray) := (N1parse.f k a0).bind fun t294 => ((N1parse.f k a1).bind fun t297 => (if 0 ≤ (wrap64 ((t294.length : Int) + (t297.length : Int))) then (if (wrap64 ((t294.length : Int) + (t297.length : Int)) : Int).toNat ≤ 70368744177664 then (N1Multiply.l0 k t297 (List.replicate (wrap64 ((t294.length : Int) + (t297.length : Int)) : Int).toNat 0) t294 (t294.length : Int) 0) else (none)) else (none)))
theorem N1Multiply.calls (k : Nat) (a0 a1 r : ByteArray) (w : World) (H : N1Multiply.f k a0 a1 = some r) :
 Calls Tryz.prog 36 #[.string a0, .string a1] w fun e w' => e = .returned (.string r) ∧ Below w.heap.size w w' := by
 have HB := Aside0.mk (Below.refl w.heap.size w)
 unfold N1Multiply.f at H
 replace ⟨t1, A1, H⟩ := bS H
 replace ⟨t2, A2, H⟩ := bS H
 obtain ⟨j1, jh1, jh1w⟩ := jI ((t1.length : Int) + (t2.length : Int))
 first | rw [jh1] at H | simp only [jh1] at H
 (try rw [jh1] at A1)
 (try rw [jh1] at A2)
 replace ⟨c1b0, c1b1, H⟩ := iteE H
 replace ⟨c2b0, c2b1, H⟩ := iteE H
 generalize yh1 : (List.replicate (j1 : Int).toNat 0 : List Int) = y1 at H
 have Y1 := Aside0.mk yh1.symm; clear yh1
 have H' := Aside0.mk H
 clear H
 go_enter Tryz.func36, Tryz.ntmps36
 go_wp2_with (first | (refine gR 15 Tryz.func63 (N1parse.calls _ _ _ _ A1.out) fun v2 w2 ho0 hb => ?_; have O1 := Aside0.mk (Kd.V_lower (Kd.V_mono (ok' := fun k_ => True) ho0 (fun k_ hk_ => trivial)) (below_size zH)); replace HB := sB hb; (try clear hb); (try clear ho0)) | (refine gR 17 Tryz.func63 (N1parse.calls _ _ _ _ A2.out) fun v3 w3 ho0 hb => ?_; have O2 := Aside0.mk (Kd.V_lower (Kd.V_mono (ok' := fun k_ => True) ho0 (fun k_ hk_ => trivial)) (below_size zH)); replace O1 := vB O1 hb; replace HB := sB hb; (try clear hb); (try clear ho0); obtain ⟨P1, d1, u1⟩ := Kd.V_slice O1.out; subst u1; obtain ⟨P2, d2, u2⟩ := Kd.V_slice O2.out; subst u2) | ((with_reducible refine gate_dst (N := 23) rfl ?_); refine Kd.R_make (Kd.int .u32) _ 80 rfl (N := 23) rfl 78 _ _ rfl j1 rfl rfl Tryz.underlying78 (.int .u32 0) 4 info80 rfl (by decide) (by omega) 0 (ok := fun _ => True) (okp := fun _ => True) rfl (fun _ hk => hk) trivial (of_decide_eq_true zq0) (Nat.le_trans (Nat.mul_le_mul_right _ (of_decide_eq_true zq0 : j1.toNat ≤ 70368744177664)) (by omega)) (Below.refl _ _) (Nat.le_refl _) ?_; intro v4 w4 ho13 hb hg_ hnew_; clear hg_ hnew_; (first | rw [← Y1.out] at ho13 | (simp only [Int.reduceToNat] at ho13; rw [← Y1.out] at ho13)); have O3 := Aside0.mk (Kd.R_lower ho13 (below_size zH)); replace O1 := Aside0.mk (Kd.V_elder' zq16 (Kd.R_base ho13) hb); replace O2 := Aside0.mk (Kd.V_elder' zq28 (Kd.R_base ho13) hb); replace HB := sB hb; clear hb ho13))
 go_loopg [26] k (fun kq v5 w' => ∃ (x1 : List Int) (x2 : Int), v5 = .int .i64 x2 ∧ Aside0 (N1Multiply.l0 kq t2 x1 t1 (t1.length : Int) x2 = some r) ∧ Aside0 (kq ≤ k) ∧ Aside0 (Kd.V (Kd.int .u32) 80 w' w.heap.size (fun k_ => some k_ ≠ (v4 : Value).ownBlock) (.slice P2 t2.length d2) t2) ∧ Aside0 (Kd.R (Kd.int .u32) 80 w' w.heap.size (fun _ => True) v4 x1) ∧ Aside0 (Kd.V (Kd.int .u32) 80 w' w.heap.size (fun k_ => some k_ ≠ (v4 : Value).ownBlock) (.slice P1 t1.length d1) t1) ∧ Aside0 (Below w.heap.size w w'))
 case atStart => exact ⟨(y1), (0), zq1, H', ⟨Nat.le_refl _⟩, ⟨by (with_reducible repeat (first | apply Kd.V_alloc | apply Kd.V_drewN | apply Kd.V_drew)); exact Kd.V_mono O2.out (fun _ hk => hk.2)⟩, ⟨zR⟩, ⟨by (with_reducible repeat (first | apply Kd.V_alloc | apply Kd.V_drewN | apply Kd.V_drew)); exact Kd.V_mono O1.out (fun _ hk => hk.2)⟩, ⟨zH⟩⟩
 case round =>
  clear H'
  obtain ⟨x1, x2, rfl, HA, HK1, HO_6, HO_7, HO_24, HB⟩ := hrel
  cases gk with
  | zero => exact absurd HA.out (by simp [N1Multiply.l0])
  | succ k1 =>
   have H := HA.out
   clear HA
   simp only [N1Multiply.l0] at H
   replace H := iL H
   rcases H with ⟨c3b0, H⟩ | ⟨c3b0, H⟩
   ·replace ⟨c4b0, H⟩ := iteD H
    replace ⟨c5b0, H⟩ := iteD H
    have H' := Aside0.mk H
    clear H
    obtain ⟨ad1, e1, hx1, p1, q1⟩ := atI (Kd.V_reads' HO_24.out).2.2 x2
    cases e1
    go_wp2
    go_loopg [10, 33] k1 (fun kq v6 v7 w' => ∃ (x3 : List Int) (x4 : Int) (x5 : Int), v6 = .int .u64 x4 ∧ v7 = .int .i64 x5 ∧ Aside0 (N1Multiply.l1 kq t2 x3 x2 (rd t1 x2) x4 t1 (t1.length : Int) x2 t2 (t2.length : Int) x5 = some r) ∧ Aside0 (kq ≤ k1) ∧ Aside0 (Kd.V (Kd.int .u32) 80 w' w.heap.size (fun k_ => some k_ ≠ (v4 : Value).ownBlock) (.slice P2 t2.length d2) t2) ∧ Aside0 (Kd.R (Kd.int .u32) 80 w' w.heap.size (fun _ => True) v4 x3) ∧ Aside0 (Kd.V (Kd.int .u32) 80 w' w.heap.size (fun k_ => some k_ ≠ (v4 : Value).ownBlock) (.slice (some ad1) t1.length d1) t1) ∧ Aside0 (Kd.V (Kd.int .u32) 80 w' w.heap.size (fun k_ => some k_ ≠ (v4 : Value).ownBlock) (.slice P2 t2.length d2) t2) ∧ Aside0 (Below w.heap.size w w'))
    case atStart => exact ⟨(x1), (0), (0), zq1, zq1, H', ⟨Nat.le_refl _⟩, ⟨zV⟩, ⟨zR⟩, ⟨zV⟩, ⟨zV⟩, ⟨zH⟩⟩
    case round =>
     clear H'
     obtain ⟨x3, x4, x5, rfl, rfl, HA, HK2, HO_6, HO_7, HO_24, HO_31, HB⟩ := hrel
     cases gk with
     | zero => exact absurd HA.out (by simp [N1Multiply.l1])
     | succ k2 =>
      have H := HA.out
      clear HA
      simp only [N1Multiply.l1] at H
      replace H := iL H
      rcases H with ⟨c6b0, H⟩ | ⟨c6b0, H⟩
      ·replace ⟨c7b0, H⟩ := iteD H
       replace ⟨c8b0, H⟩ := iteD H
       obtain ⟨j2, jh2, jh2w⟩ := jI (x2 + x5)
       first | rw [jh2] at H | simp only [jh2] at H
       replace ⟨c9b0, H⟩ := iteD H
       replace ⟨c10b0, H⟩ := iteD H
       generalize yh2 : (x3.set ((j2) : Int).toNat ((IntKind.u64.wrap ((IntKind.u64.wrap ((IntKind.u64.wrap ((IntKind.u64.wrap ((rd t1 x2))) * (IntKind.u64.wrap (rd t2 x5)))) + (IntKind.u64.wrap (rd x3 (j2))))) + x4)) % 4294967296) : List Int) = y2 at H
       have Y2 := Aside0.mk yh2.symm; clear yh2
       have H' := Aside0.mk H
       clear H
       obtain ⟨ad2, e2, hx2, p2, q2⟩ := atI (Kd.V_reads' HO_31.out).2.2 x5
       cases e2
       obtain ⟨P3, d3, u3⟩ := Kd.R_slice HO_7.out
       subst u3
       obtain ⟨ad3, e3, hx3, p3, q3⟩ := atI (Kd.R_reads' HO_7.out).2.2 (j2)
       cases e3
       have p4 : 0 ≤ ((j2) : Int) := of_decide_eq_true zq0
       have q4 : ((j2) : Int) < ((x3.length : Int) : Int) := of_decide_eq_true zq0
       obtain ⟨go1, d4, u4, g1, gl23, cl23, HG23⟩ := Kd.R_form HO_7.out (by omega)
       (first | cases u4 | (injection u4 with ea_ en_ ec_; (first | subst ea_ | (injection ea_ with ea_; subst ea_)); subst ec_; clear en_))
       have GB1 := Aside0.mk g1
       have GG23 := Aside0.mk HG23
       clear g1 gl23 HG23
       (first | simp only [add_plain] at hx3 | skip)
       obtain ⟨hx4, hf23_0⟩ := Kd.R_celln 0 HO_7.out ((j2) : Int) p4 q4
       (try simp only [Go.IntWalk.toNatUp] at hx4 hf23_0)
       replace p4 := eq_true p4
       replace q4 := eq_true q4
       have HP1 := Kd.R_putg HO_7.out ((j2) : Int) ((IntKind.u64.wrap ((IntKind.u64.wrap ((IntKind.u64.wrap ((IntKind.u64.wrap ((rd t1 x2))) * (IntKind.u64.wrap (rd t2 x5)))) + (IntKind.u64.wrap (rd x3 (j2))))) + x4)) % 4294967296)
       go_wp2_with (refine stR 80 59 HP1 Y2 fun w5 hw hg hp_ => ?_; clear HP1; replace HO_6 := Aside0.mk (Kd.V_afterv (v := (.slice (some ⟨go1, 0, none⟩) x3.length d3)) (v1 := (.slice (some ⟨go1, 0, none⟩) x3.length d3)) (ok := (fun _ => True)) zq31 hg (.inl rfl)); replace HO_7 := Aside0.mk (hp_); replace HO_24 := Aside0.mk (Kd.V_afterv (v := (.slice (some ⟨go1, 0, none⟩) x3.length d3)) (v1 := (.slice (some ⟨go1, 0, none⟩) x3.length d3)) (ok := (fun _ => True)) (by (with_reducible repeat (first | apply Kd.V_alloc | apply Kd.V_drewN | apply Kd.V_drew)); exact Kd.V_mono HO_24.out (fun _ hk => ⟨trivial, hk⟩)) hg (.inl rfl)); replace HO_31 := Aside0.mk (Kd.V_afterv (v := (.slice (some ⟨go1, 0, none⟩) x3.length d3)) (v1 := (.slice (some ⟨go1, 0, none⟩) x3.length d3)) (ok := (fun _ => True)) (by (with_reducible repeat (first | apply Kd.V_alloc | apply Kd.V_drewN | apply Kd.V_drew)); exact Kd.V_mono HO_31.out (fun _ hk => ⟨trivial, hk⟩)) hg (.inl rfl)); replace HB := bS2 hw HB GB1; clear hg hw hp_)
       go_roundg k2
       case measure => have := HK1.out; have := HK2.out; omega
       case rel => exact ⟨(y2), ((IntKind.u64.wrap ((IntKind.u64.wrap ((IntKind.u64.wrap ((IntKind.u64.wrap ((rd t1 x2))) * (IntKind.u64.wrap (rd t2 x5)))) + (IntKind.u64.wrap (rd x3 (j2))))) + x4)) / 4294967296), (wrap64 (x5 + 1)), zq27, zq1, H', ⟨zq17⟩, ⟨zq30⟩, ⟨zR⟩, ⟨by (with_reducible repeat (first | apply Kd.V_alloc | apply Kd.V_drewN | apply Kd.V_drew)); exact Kd.V_mono HO_24.out (fun _ hk => hk.2)⟩, ⟨by (with_reducible repeat (first | apply Kd.V_alloc | apply Kd.V_drewN | apply Kd.V_drew)); exact Kd.V_mono HO_31.out (fun _ hk => hk.2)⟩, ⟨zH⟩⟩
      ·obtain ⟨j2, jh2, jh2w⟩ := jI (x2 + (t2.length : Int))
       first | rw [jh2] at H | simp only [jh2] at H
       replace ⟨c7b0, H⟩ := iteD H
       replace ⟨c8b0, H⟩ := iteD H
       generalize yh2 : (x3.set ((j2) : Int).toNat ((x4) % 4294967296) : List Int) = y2 at H
       have Y2 := Aside0.mk yh2.symm; clear yh2
       have H' := Aside0.mk H
       clear H
       have p2 : 0 ≤ ((j2) : Int) := of_decide_eq_true zq0
       have q2 : ((j2) : Int) < ((x3.length : Int) : Int) := of_decide_eq_true zq0
       obtain ⟨go1, d3, u3, g1, gl30, cl30, HG30⟩ := Kd.R_form HO_7.out (by omega)
       (first | cases u3 | (injection u3 with ea_ en_ ec_; (first | subst ea_ | (injection ea_ with ea_; subst ea_)); subst ec_; clear en_))
       have GB1 := Aside0.mk g1
       have GG30 := Aside0.mk HG30
       clear g1 gl30 HG30
       obtain ⟨hx2, hf30_0⟩ := Kd.R_celln 0 HO_7.out ((j2) : Int) p2 q2
       (try simp only [Go.IntWalk.toNatUp] at hx2 hf30_0)
       replace p2 := eq_true p2
       replace q2 := eq_true q2
       have HP1 := Kd.R_putg HO_7.out ((j2) : Int) ((x4) % 4294967296)
       go_wp2_with (refine stR 80 70 HP1 Y2 fun w5 hw hg hp_ => ?_; clear HP1; replace HO_6 := Aside0.mk (Kd.V_afterv (v := (.slice (some ⟨go1, 0, none⟩) x3.length d3)) (v1 := (.slice (some ⟨go1, 0, none⟩) x3.length d3)) (ok := (fun _ => True)) zq31 hg (.inl rfl)); replace HO_7 := Aside0.mk (hp_); replace HO_24 := Aside0.mk (Kd.V_afterv (v := (.slice (some ⟨go1, 0, none⟩) x3.length d3)) (v1 := (.slice (some ⟨go1, 0, none⟩) x3.length d3)) (ok := (fun _ => True)) (by (with_reducible repeat (first | apply Kd.V_alloc | apply Kd.V_drewN | apply Kd.V_drew)); exact Kd.V_mono HO_24.out (fun _ hk => ⟨trivial, hk⟩)) hg (.inl rfl)); replace HO_31 := Aside0.mk (Kd.V_afterv (v := (.slice (some ⟨go1, 0, none⟩) x3.length d3)) (v1 := (.slice (some ⟨go1, 0, none⟩) x3.length d3)) (ok := (fun _ => True)) (by (with_reducible repeat (first | apply Kd.V_alloc | apply Kd.V_drewN | apply Kd.V_drew)); exact Kd.V_mono HO_31.out (fun _ hk => ⟨trivial, hk⟩)) hg (.inl rfl)); replace HB := bS2 hw HB GB1; clear hg hw hp_)
       go_roundg k2
       case measure => have := HK1.out; have := HK2.out; omega
       case rel => exact ⟨(y2), (wrap64 (x2 + 1)), zq1, H', ⟨zq17⟩, ⟨zq30⟩, ⟨zR⟩, ⟨by (with_reducible repeat (first | apply Kd.V_alloc | apply Kd.V_drewN | apply Kd.V_drew)); exact Kd.V_mono HO_24.out (fun _ hk => hk.2)⟩, ⟨zH⟩⟩
   ·replace ⟨t3, A3, H⟩ := bS H
    obtain rfl := sI H
    obtain ⟨P3, d3, u3⟩ := Kd.R_slice HO_7.out
    subst u3
    go_wp2_with (refine gB 73 Tryz.func64 (N1limbs_text.calls k1 _ _ x1 t3 _ ?side1 ?side2 A3.out) fun w5 hb HB => ?_; (case side1 => exact sC (Kd.R_reads' HO_7.out).2.2); (case side2 => exact (Kd.R_reads' HO_7.out).2.1); replace HO_6 := vB HO_6 hb; replace HO_7 := rB HO_7 hb; replace HO_24 := vB HO_24 hb; clear hb)
    go_ret
    exact ⟨zq9, zH⟩
def R1Normalize.l0 : Nat → ByteArray → Int → Option (ByteArray)
 | 0, _, _ => none
 | k + 1, x0, x3 => if x3 < (x0.size : Int) then (if 0 ≤ x3 then (if (bt x0 x3) = 0 then (R1Normalize.l0 k x0 (wrap64 (x3 + 1))) else (if x3 ≤ (x0.size : Int) then (some (x0.extract (x3 : Int).toNat x0.size)) else (none))) else (none)) else (if 0 ≤ x3 then (if x3 ≤ (x0.size : Int) then (some (x0.extract (x3 : Int).toNat x0.size)) else (none)) else (none))
def R1Normalize.f (k : Nat) (a0 : ByteArray) : Option (ByteArray) := R1Normalize.l0 k a0 0
theorem R1Normalize.calls (k : Nat) (a0 r : ByteArray) (w : World) (H : R1Normalize.f k a0 = some r) :
 Calls Tryz.prog 68 #[.string a0] w fun e w' => e = .returned (.string r) ∧ Drawn0 w w' := by
 unfold R1Normalize.f at H
 have H' := Aside0.mk H
 clear H
 go_enter Tryz.func68, Tryz.ntmps68
 go_wp2
 go_loopg [3] k (fun kq v1 w' => ∃ (x1 : Int), v1 = .int .i64 x1 ∧ Aside0 (R1Normalize.l0 kq a0 x1 = some r) ∧ Aside0 (kq ≤ k) ∧ Drawn0 w w')
 case atStart => exact ⟨(0), zq1, H', ⟨Nat.le_refl _⟩, zq7⟩
 case round =>
  clear H'
  obtain ⟨x1, rfl, HA, HK1, ⟨m1, rfl⟩⟩ := hrel
  cases gk with
  | zero => exact absurd HA.out (by simp [R1Normalize.l0])
  | succ k1 =>
   have H := HA.out
   clear HA
   simp only [R1Normalize.l0] at H
   replace H := iL H
   rcases H with ⟨c1b0, H⟩ | ⟨c1b0, H⟩
   ·replace ⟨c2b0, H⟩ := iteD H
    replace H := iQ H
    rcases H with ⟨c3b0, c3b1, H⟩ | ⟨c3b0, c3b1, H⟩
    ·have H' := Aside0.mk H
     clear H
     have p1 : 0 ≤ (x1 : Int) := of_decide_eq_true zq0
     have q1 : x1 < (a0.size : Int) := of_decide_eq_true zq0
     have hx1 := bt_at a0 x1
     replace p1 := eq_true p1
     replace q1 := eq_true q1
     go_wp2
     go_roundg k1
     case measure => have := HK1.out; omega
     case rel => exact ⟨(wrap64 (x1 + 1)), zq1, H', ⟨zq4⟩, zq7⟩
    ·have c4b0 := eq_true (of_decide_eq_true zq0 : 0 ≤ x1)
     replace ⟨c5b0, c5b1, H⟩ := iteE H
     obtain rfl := sI H
     have p1 : 0 ≤ (x1 : Int) := of_decide_eq_true zq0
     have q1 : x1 < (a0.size : Int) := of_decide_eq_true zq0
     have hx1 := bt_at a0 x1
     replace p1 := eq_true p1
     replace q1 := eq_true q1
     go_wp2
     go_ret
     exact ⟨zq1, zq7⟩
   ·replace ⟨c2b0, c2b1, H⟩ := iteE H
    replace ⟨c3b0, c3b1, H⟩ := iteE H
    obtain rfl := sI H
    go_wp2
    go_ret
    exact ⟨zq1, zq7⟩
def R1limbs.l0 : Nat → ByteArray → List Int → Int → Option (List Int)
 | 0, _, _, _ => none
 | k + 1, x0, x3, x4 => if x4 < (x0.size : Int) then (if 0 ≤ (wrap64 (Int.tdiv x4 4)) then (if (wrap64 (Int.tdiv x4 4)) < (x3.length : Int) then (if 0 ≤ (wrap64 ((wrap64 ((x0.size : Int) - 1)) - x4)) then (if (wrap64 ((wrap64 ((x0.size : Int) - 1)) - x4)) < (x0.size : Int) then (if 0 ≤ (IntKind.u64.wrap (wrap64 (8 * (Int.tmod x4 4)))) then (if (IntKind.u64.wrap (wrap64 (8 * (Int.tmod x4 4)))) ≤ 32 then (R1limbs.l0 k x0 (x3.set ((wrap64 (Int.tdiv x4 4)) : Int).toNat (Go.bits .or .u32 (rd x3 (wrap64 (Int.tdiv x4 4))) ((((bt x0 (wrap64 ((wrap64 ((x0.size : Int) - 1)) - x4))) % 4294967296) * 2 ^ (IntKind.u64.wrap (wrap64 (8 * (Int.tmod x4 4)))).toNat) % 4294967296))) (wrap64 (x4 + 1))) else (none)) else (none)) else (none)) else (none)) else (none)) else (none)) else (some x3)
def R1limbs.f (k : Nat) (a0 : ByteArray) : Option (List Int) := (R1Normalize.f k a0).bind fun t309 => (if 0 ≤ (wrap64 (Int.tdiv (wrap64 ((t309.size : Int) + 3)) 4)) then (if (wrap64 (Int.tdiv (wrap64 ((t309.size : Int) + 3)) 4) : Int).toNat ≤ 70368744177664 then (R1limbs.l0 k t309 (List.replicate (wrap64 (Int.tdiv (wrap64 ((t309.size : Int) + 3)) 4) : Int).toNat 0) 0) else (none)) else (none))
def R1limbs.T6 : Bool × List (List Nat × List Nat) := (true, [([], []), ([], []), ([1], [1]), ([], []), ([], []), ([4], [4]), ([3, 5], [3, 5]), ([6], [6]), ([], []), ([], []), ([9], [9]), ([10], [10]), ([], []), ([11, 12], [11, 12]), ([8, 13], [8, 13]), ([14], [14]), ([], []), ([16], [16]), ([17], [17]), ([18], [18]), ([15, 19], [15, 19]), ([7, 20], [7, 20]), ([0, 2, 0, 1, 2, 3, 4, 5, 6, 7, 8, 9, 10, 11, 12, 13, 14, 15, 16, 17, 18, 19, 20, 21], [0, 2]), ([22, 21, 0, 1, 2, 3, 4, 5, 6, 7, 8, 9, 10, 11, 12, 13, 14, 15, 16, 17, 18, 19, 20, 21], [21, 22])])
def R1limbs.B6 : List Nat := [0, 0, 2, 0, 0, 16, 56, 120, 0, 0, 512, 1536, 0, 7680, 16128, 32512, 0, 65536, 196608, 458752, 1048320, 2097144, 4194303, 8388607]
theorem R1limbs.tab6 : rtab .any (opsOf Tryz.f46 6) = R1limbs.T6 := by kernel_rfl
theorem R1limbs.bits6 : waitsOk R1limbs.T6.2 R1limbs.B6 = true := by kernel_rfl
theorem R1limbs.calls (k : Nat) (a0 : ByteArray) (r : List Int) (w : World) (H : R1limbs.f k a0 = some r) :
 Calls Tryz.prog 46 #[.string a0] w fun e w' => ∃ v0_ : Value, e = .returned (v0_) ∧ Kd.R (Kd.int .u32) 80 w' w.heap.size (fun _ => True) v0_ r ∧ Below w.heap.size w w' := by
 have HB := Aside0.mk (Below.refl w.heap.size w)
 unfold R1limbs.f at H
 replace ⟨t1, A1, H⟩ := bS H
 obtain ⟨j1, jh1, jh1w⟩ := jI (Int.tdiv (wrap64 ((t1.size : Int) + 3)) 4)
 first | rw [jh1] at H | simp only [jh1] at H
 (try rw [jh1] at A1)
 replace ⟨c1b0, c1b1, H⟩ := iteE H
 replace ⟨c2b0, c2b1, H⟩ := iteE H
 generalize yh1 : (List.replicate (j1 : Int).toNat 0 : List Int) = y1 at H
 have Y1 := Aside0.mk yh1.symm; clear yh1
 have H' := Aside0.mk H
 clear H
 go_enter Tryz.func46, Tryz.ntmps46
 go_wp2_with (first | (refine gD 6 Tryz.func68 (R1Normalize.calls _ _ _ _ A1.out) fun nd => ?_) | ((with_reducible refine gate_dst (N := 11) rfl ?_); refine Kd.R_make (Kd.int .u32) _ 80 rfl (N := 11) rfl 62 _ _ rfl j1 rfl rfl Tryz.underlying62 (.int .u32 0) 4 info80 rfl (by decide) (by omega) 0 (ok := fun _ => True) (okp := fun _ => True) rfl (fun _ hk => hk) trivial (of_decide_eq_true zq0) (Nat.le_trans (Nat.mul_le_mul_right _ (of_decide_eq_true zq0 : j1.toNat ≤ 70368744177664)) (by omega)) (Below.refl _ _) (Nat.le_refl _) ?_; intro v1 w2 ho7 hb hg_ hnew_; clear hg_ hnew_; (first | rw [← Y1.out] at ho7 | (simp only [Int.reduceToNat] at ho7; rw [← Y1.out] at ho7)); have O1 := Aside0.mk (Kd.R_lower ho7 (below_size zH)); replace HB := sB hb; clear hb ho7))
 go_loopg [4] k (fun kq v2 w' => ∃ (x1 : List Int) (x2 : Int), v2 = .int .i64 x2 ∧ Aside0 (R1limbs.l0 kq t1 x1 x2 = some r) ∧ Aside0 (kq ≤ k) ∧ Aside0 (Kd.R (Kd.int .u32) 80 w' w.heap.size (fun _ => True) v1 x1) ∧ Aside0 (Below w.heap.size w w'))
 case atStart => exact ⟨(y1), (0), zq1, H', ⟨Nat.le_refl _⟩, ⟨zR⟩, ⟨zH⟩⟩
 case round =>
  clear H'
  obtain ⟨x1, x2, rfl, HA, HK1, HO_3, HB⟩ := hrel
  cases gk with
  | zero => exact absurd HA.out (by simp [R1limbs.l0])
  | succ k1 =>
   have H := HA.out
   clear HA
   simp only [R1limbs.l0] at H
   replace H := iL H
   rcases H with ⟨c3b0, H⟩ | ⟨c3b0, H⟩
   ·obtain ⟨j2, jh2, jh2w⟩ := jI (Int.tdiv x2 4)
    first | rw [jh2] at H | simp only [jh2] at H
    replace ⟨c4b0, H⟩ := iteD H
    replace ⟨c5b0, H⟩ := iteD H
    obtain ⟨j3, jh3, jh3w⟩ := jI ((wrap64 ((t1.size : Int) - 1)) - x2)
    first | rw [jh3] at H | simp only [jh3] at H
    replace ⟨c6b0, H⟩ := iteD H
    replace ⟨c7b0, H⟩ := iteD H
    obtain ⟨j4, jh4⟩ : ∃ j_ : Int, (IntKind.u64.wrap (wrap64 (8 * (Int.tmod x2 4)))) = j_ := ⟨_, rfl⟩
    first | rw [jh4] at H | simp only [jh4] at H
    replace ⟨c8b0, c8b1, H⟩ := iteE H
    replace ⟨c9b0, c9b1, H⟩ := iteE H
    generalize yh2 : (x1.set ((j2) : Int).toNat (Go.bits .or .u32 (rd x1 (j2)) ((((bt t1 (j3)) % 4294967296) * 2 ^ (j4).toNat) % 4294967296)) : List Int) = y2 at H
    have Y2 := Aside0.mk yh2.symm; clear yh2
    have H' := Aside0.mk H
    clear H
    try go_wp2
    replace HO_3 := rD HO_3
    replace HB := hD HB
    obtain ⟨P1, d1, u1⟩ := Kd.R_slice HO_3.out
    (first | subst u1 | (injection u1 with f1_ f2_ f3_; have f4_ := f1_.symm; have f5_ := f3_.symm; clear f1_ f2_ f3_; subst f4_; subst f5_))
    obtain ⟨ad1, e1, hx1, p1, q1⟩ := atI (Kd.R_reads' HO_3.out).2.2 (j2)
    cases e1
    have p2 : 0 ≤ ((j3) : Int) := of_decide_eq_true zq0
    have q2 : (j3) < (t1.size : Int) := of_decide_eq_true zq0
    have hx2 := bt_at t1 (j3)
    replace p2 := eq_true p2
    replace q2 := eq_true q2
    have p3 : 0 ≤ ((j2) : Int) := of_decide_eq_true zq0
    have q3 : ((j2) : Int) < ((x1.length : Int) : Int) := of_decide_eq_true zq0
    obtain ⟨go1, d2, u2, g1, gl19, cl19, HG19⟩ := Kd.R_form HO_3.out (by omega)
    (first | cases u2 | (injection u2 with ea_ en_ ec_; (first | subst ea_ | (injection ea_ with ea_; subst ea_)); subst ec_; clear en_))
    have GB1 := Aside0.mk g1
    have GG19 := Aside0.mk HG19
    clear g1 gl19 HG19
    (first | simp only [add_plain] at hx1 | skip)
    obtain ⟨hx3, hf19_0⟩ := Kd.R_celln 0 HO_3.out ((j2) : Int) p3 q3
    (try simp only [Go.IntWalk.toNatUp] at hx3 hf19_0)
    replace p3 := eq_true p3
    replace q3 := eq_true q3
    have HP1 := Kd.R_putn HO_3.out ((j2) : Int) (Go.bits .or .u32 (rd x1 (j2)) ((((bt t1 (j3)) % 4294967296) * 2 ^ (j4).toNat) % 4294967296))
    rw [← Y2.out] at HP1
    have HQ22 := Aside0.mk HP1
    clear HP1
    refine startA 24 (S := fun w' => w'.cell? ⟨go1, ((j2)).toNat, none⟩ = some (.int .u32 (rd x1 (j2)))) (ds := [23]) (hx1) (fun hHeld => ?_); refine with_tabW R1limbs.tab6 R1limbs.bits6 (fun HT_ HW_ => ?_)
    generalize wr.drew = w3 at HO_3 HB GG19 HQ22 hf19_0 hx3 hx1 hHeld ⊢
    refine pA 0 1 ?_
    refine pA 1 3 ?_
    refine pA 2 7 ?_
    refine pA 3 15 ?_
    refine pA 4 31 ?_
    refine pA 5 63 ?_
    refine pA 6 127 ?_
    refine pA 8 383 ?_
    refine pA 9 895 ?_
    refine pA 10 1919 ?_
    refine pA 11 3967 ?_
    refine pA 12 8063 ?_
    refine pA 13 16255 ?_
    refine pA 16 81791 ?_
    refine pA 17 212863 ?_
    refine pA 18 475007 ?_
    refine pA 19 999295 ?_
    refine take_ (i := 7) (N := some 25) (v := ?_) (a' := ?_) #[true, true, true, true, true, true, true, true, true, true, true, true, true, true, false, false, true, true, true, true, false, false, false, false] rfl rfl (take_ofW HT_.out HW_.out (by kernel_rfl)) (fun _ _ _ h => h) (Or.inl ⟨by rfl, ?_⟩) hHeld ?_ ?_
    rotate_left
    ·intro w' s0
     go_simp
     with_reducible rfl
    rotate_left
    ·simp only [Act.put, List.setIfInBounds_toArray, List.set_cons_zero, List.set_cons_succ, i64_w, i32_w]
     rfl
    refine take_ (i := 14) (N := some 32) (v := ?_) (a' := ?_) #[true, true, true, true, true, true, true, true, true, true, true, true, true, true, true, false, true, true, true, true, false, false, false, false] rfl rfl (take_ofW HT_.out HW_.out (by kernel_rfl)) (fun _ _ _ h => h) (Or.inl ⟨by rfl, ?_⟩) hHeld ?_ ?_
    rotate_left
    ·intro w' s0
     go_simp
     with_reducible rfl
    rotate_left
    ·simp only [Act.put, List.setIfInBounds_toArray, List.set_cons_zero, List.set_cons_succ, i64_w, i32_w]
     rfl
    refine pA 15 1048575 ?_
    refine pA 20 2097151 ?_
    refine pA 21 4194303 ?_
    refine pA 22 8388607 ?_
    refine last_ (i := 23) (N := none) (lB 24 16777215) rfl rfl (one_of HT_.out (by kernel_rfl)) (by decide) (fun K hK => ?_)
    refine skip_ (w1 := ?_) (by rfl) rfl ?_ ?_
    rotate_left
    ·go_simp
     rfl
    refine hK.out _ _ ?_
    clear hK K
    refine done_ (done_of HT_.out (by kernel_rfl)) ?_
    try go_wp2
    go_roundg k1
    case measure => have := HK1.out; omega
    case rel => exact ⟨(y2), (wrap64 (x2 + 1)), zq1, H', ⟨zq4⟩, ⟨zR⟩, ⟨zH⟩⟩
   ·obtain rfl := sI H
    go_wp2
    go_ret
    exact ⟨_, zq9, zR, zH⟩
def R1strip.l0 : Nat → List Int → Int → Option (List Int)
 | 0, _, _ => none
 | k + 1, x0, x3 => if x3 > 0 then (if 0 ≤ (wrap64 (x3 - 1)) then (if (wrap64 (x3 - 1)) < (x0.length : Int) then (if (rd x0 (wrap64 (x3 - 1))) = 0 then (R1strip.l0 k x0 (wrap64 (x3 - 1))) else (if 0 ≤ x3 then (if x3 ≤ (x0.length : Int) then (some (x0.take (x3 : Int).toNat)) else (none)) else (none))) else (none)) else (none)) else (if 0 ≤ x3 then (if x3 ≤ (x0.length : Int) then (some (x0.take (x3 : Int).toNat)) else (none)) else (none))
def R1strip.f (k : Nat) (l0 : List Int) : Option (List Int) := R1strip.l0 k l0 (l0.length : Int)
theorem R1strip.calls (k : Nat) (P0_ : Nat → Prop) (A0 : Option Addr) (c0 : Nat) (l0 r : List Int) (w : World) (hs0 : Kd.V (Kd.int .u32) 80 w w.heap.size (fun k_ => P0_ k_) (.slice A0 l0.length c0) l0) (H : R1strip.f k l0 = some r) :
 Calls Tryz.prog 70 #[.slice A0 l0.length c0] w fun e w' => ∃ v0_ : Value, e = .returned (v0_) ∧ Kd.V (Kd.int .u32) 80 w' w.heap.size (fun k_ => (P0_ k_ ∨ w.heap.size ≤ k_)) v0_ r ∧ Below w.heap.size w w' := by
 have O1 := Aside0.mk (show Kd.V (Kd.int .u32) 80 w w.heap.size (fun k_ => (P0_ k_ ∨ w.heap.size ≤ k_)) (.slice A0 l0.length c0) l0 from Kd.V_mono hs0 (fun k_ hk => .inl hk))
 have HB := Aside0.mk (Below.refl w.heap.size w)
 unfold R1strip.f at H
 have H' := Aside0.mk H
 clear H
 go_enter Tryz.func70, Tryz.ntmps70
 go_wp2
 go_loopg [3] k (fun kq v1 w' => ∃ (x1 : Int), v1 = .int .i64 x1 ∧ Aside0 (R1strip.l0 kq l0 x1 = some r) ∧ Aside0 (kq ≤ k) ∧ Aside0 (Kd.V (Kd.int .u32) 80 w' w.heap.size (fun k_ => (P0_ k_ ∨ w.heap.size ≤ k_)) (.slice A0 l0.length c0) l0) ∧ Aside0 (Below w.heap.size w w'))
 case atStart => exact ⟨((l0.length : Int)), zq1, H', ⟨Nat.le_refl _⟩, ⟨zV⟩, ⟨zH⟩⟩
 case round =>
  clear H'
  obtain ⟨x1, rfl, HA, HK1, HO_0, HB⟩ := hrel
  cases gk with
  | zero => exact absurd HA.out (by simp [R1strip.l0])
  | succ k1 =>
   have H := HA.out
   clear HA
   simp only [R1strip.l0] at H
   replace H := iL H
   rcases H with ⟨c1b0, H⟩ | ⟨c1b0, H⟩
   ·obtain ⟨j1, jh1, jh1w⟩ := jI (x1 - 1)
    first | rw [jh1] at H | simp only [jh1] at H
    replace ⟨c2b0, H⟩ := iteD H
    replace ⟨c3b0, H⟩ := iteD H
    replace H := iQ H
    rcases H with ⟨c4b0, c4b1, H⟩ | ⟨c4b0, c4b1, H⟩
    ·have H' := Aside0.mk H
     clear H
     obtain ⟨ad1, e1, hx1, p1, q1⟩ := atI (Kd.V_reads' HO_0.out).2.2 (j1)
     cases e1
     go_wp2
     go_roundg k1
     case measure => have := HK1.out; omega
     case rel => exact ⟨(j1), zq15, H', ⟨zq4⟩, ⟨zV⟩, ⟨zH⟩⟩
    ·replace ⟨c5b0, c5b1, H⟩ := iteE H
     replace ⟨c6b0, c6b1, H⟩ := iteE H
     generalize yh1 : (l0.take (x1 : Int).toNat : List Int) = y1 at H
     have Y1 := Aside0.mk yh1.symm; clear yh1
     obtain rfl := sI H
     obtain ⟨ad1, e1, hx1, p1, q1⟩ := atI (Kd.V_reads' HO_0.out).2.2 (j1)
     cases e1
     have q2 : (x1 : Int) ≤ ((l0.length : Int) : Int) := of_decide_eq_true zq0
     obtain ⟨i09, hi09, _, hsz9, _⟩ := info_parts info80
     have hroom9 : l0.length ≤ c0 := (Kd.V_reads' HO_0.out).2.1
     have hC9 : Kd.F (Kd.int .u32) _ _ (some ad1) l0.length l0 := (Kd.V_at (base := w.heap.size) HO_0.out).2.2
     have hcut9 := cut_to (P := Tryz.prog) 62 80 .i64 Tryz.underlying62 hi09 (some ad1) l0.length c0 x1 (of_decide_eq_true zq0) q2 hroom9
     have hr9 := Kd.F_take (m := (x1 : Int).toNat) hC9 (by omega)
     have yh2 : y1.length = (x1 : Int).toNat := (by rw [Y1.out, List.length_take]; omega)
     rw [← Y1.out] at hr9
     rw [← yh2] at hcut9
     have O2 := Aside0.mk (show Kd.V (Kd.int .u32) 80 _ w.heap.size _ (.slice (some ad1) y1.length c0) y1 from Kd.V_mk (by omega) hr9)
     have HC320 := Aside0.mk (show y1.length ≤ c0 from by omega)
     clear hr9 hC9 hroom9 hi09 hsz9
     have KY9 := Aside0.mk yh2
     clear yh2
     replace q2 := eq_true q2
     go_wp2
     go_ret
     exact ⟨_, zq9, zV, zH⟩
   ·replace ⟨c2b0, c2b1, H⟩ := iteE H
    replace ⟨c3b0, c3b1, H⟩ := iteE H
    generalize yh1 : (l0.take (x1 : Int).toNat : List Int) = y1 at H
    have Y1 := Aside0.mk yh1.symm; clear yh1
    obtain rfl := sI H
    have q1 : (x1 : Int) ≤ ((l0.length : Int) : Int) := of_decide_eq_true zq0
    obtain ⟨i012, hi012, _, hsz12, _⟩ := info_parts info80
    have hroom12 : l0.length ≤ c0 := (Kd.V_reads' HO_0.out).2.1
    have hC12 : Kd.F (Kd.int .u32) _ _ A0 l0.length l0 := (Kd.V_at (base := w.heap.size) HO_0.out).2.2
    have hcut12 := cut_to (P := Tryz.prog) 62 80 .i64 Tryz.underlying62 hi012 A0 l0.length c0 x1 (of_decide_eq_true zq0) q1 hroom12
    have hr12 := Kd.F_take (m := (x1 : Int).toNat) hC12 (by omega)
    have yh2 : y1.length = (x1 : Int).toNat := (by rw [Y1.out, List.length_take]; omega)
    rw [← Y1.out] at hr12
    rw [← yh2] at hcut12
    have O2 := Aside0.mk (show Kd.V (Kd.int .u32) 80 _ w.heap.size _ (.slice A0 y1.length c0) y1 from Kd.V_mk (by omega) hr12)
    have HC325 := Aside0.mk (show y1.length ≤ c0 from by omega)
    clear hr12 hC12 hroom12 hi012 hsz12
    have KY12 := Aside0.mk yh2
    clear yh2
    replace q1 := eq_true q1
    go_wp2
    go_ret
    exact ⟨_, zE, zV, zH⟩
def R1text.l0 : Nat → List Int → List Int → Int → Option (ByteArray)
 | 0, _, _, _ => none
 | k + 1, x0, x3, x4 => if x4 ≥ 0 then (if 0 ≤ x4 then (if x4 < (x0.length : Int) then ((some (([((rd x0 x4) / 16777216) % 256, ((rd x0 x4) / 65536) % 256, ((rd x0 x4) / 256) % 256, (rd x0 x4) % 256] : List Int) : List Int)).bind fun y333 => (if x3.length + y333.length < 140737488355328 then (R1text.l0 k x0 (x3 ++ y333) (wrap64 (x4 - 1))) else (none))) else (none)) else (none)) else ((R1Normalize.f k (strOfNums x3)).bind fun t339 => (some t339))
def R1text.f (k : Nat) (l0 : List Int) : Option (ByteArray) := (R1strip.f k l0).bind fun t326 => (if 0 ≤ (wrap64 (4 * (t326.length : Int))) then (if (wrap64 (4 * (t326.length : Int)) : Int).toNat ≤ 281474976710656 then (R1text.l0 k t326 (([] : List Int)) (wrap64 ((t326.length : Int) - 1))) else (none)) else (none))
theorem R1text.calls (k : Nat) (A0 : Option Addr) (c0 : Nat) (l0 : List Int) (r : ByteArray) (w : World) (hr0 : Kd.C (Kd.int .u32) w A0 l0.length l0) (hc0 : l0.length ≤ c0) (H : R1text.f k l0 = some r) :
 Calls Tryz.prog 73 #[.slice A0 l0.length c0] w fun e w' => e = .returned (.string r) ∧ Below w.heap.size w w' := by
 have HR0 := Aside0.mk hr0
 have HC0 := Aside0.mk hc0
 clear hr0 hc0
 have HB := Aside0.mk (Below.refl w.heap.size w)
 unfold R1text.f at H
 replace ⟨t1, A1, H⟩ := bS H
 obtain ⟨j1, jh1, jh1w⟩ := jI (4 * (t1.length : Int))
 first | rw [jh1] at H | simp only [jh1] at H
 (try rw [jh1] at A1)
 replace ⟨c1b0, c1b1, H⟩ := iteE H
 replace ⟨c2b0, c2b1, H⟩ := iteE H
 generalize yh1 : (([] : List Int) : List Int) = y1 at H
 have Y1 := Aside0.mk yh1.symm; clear yh1
 have H' := Aside0.mk H
 clear H
 go_enter Tryz.func73, Tryz.ntmps73
 go_wp2_with (first | (refine gR 7 Tryz.func70 (R1strip.calls k (fun k_ => k_ < w.heap.size) _ _ l0 t1 _ ?side1 A1.out) fun v1 w1 ho0 hb => ?_; (case side1 => exact Kd.V_mk HC0.out (Kd.F_below (Kd.C_F (Kd.heap_int .u32) HR0.out) zH)); have O1 := Aside0.mk (Kd.V_lower (Kd.V_mono (ok' := fun k_ => True) ho0 (fun k_ hk_ => trivial)) (below_size zH)); replace HB := sB hb; (try clear hb); (try clear ho0); obtain ⟨P1, d1, u1⟩ := Kd.V_slice O1.out; subst u1) | ((with_reducible refine gate_dst (N := 11) rfl ?_); refine Kd.R_makecap (Kd.int .u8) _ 5 rfl (N := 11) rfl 95 _ _ rfl j1 rfl rfl Tryz.underlying95 (.int .u8 0) 1 info5 rfl (by decide) (by omega) (ok := fun _ => True) (okp := fun _ => True) (fun _ hk => hk) trivial (of_decide_eq_true zq0) (Nat.le_trans (Nat.mul_le_mul_right _ (of_decide_eq_true zq0 : j1.toNat ≤ 281474976710656)) (by omega)) (Below.refl _ _) (Nat.le_refl _) ?_; intro v2 w2 ho9 hb hg_ hnew_; clear hg_ hnew_; (first | rw [← Y1.out] at ho9 | (simp only [Int.reduceToNat] at ho9; rw [← Y1.out] at ho9)); have O2 := Aside0.mk (Kd.R_lower ho9 (below_size zH)); replace O1 := Aside0.mk (Kd.V_elder' zq16 (Kd.R_base ho9) hb); replace HB := sB hb; clear hb ho9))
 go_loopg [3, 4] k (fun kq v3 v4 w' => ∃ (x1 : List Int) (x2 : Int), v4 = .int .i64 x2 ∧ Aside0 (R1text.l0 kq t1 x1 x2 = some r) ∧ Aside0 (kq ≤ k) ∧ Aside0 (Kd.V (Kd.int .u32) 80 w' w.heap.size (fun k_ => some k_ ≠ (v3 : Value).ownBlock) (.slice P1 t1.length d1) t1) ∧ Aside0 (Kd.R (Kd.int .u8) 5 w' w.heap.size (fun _ => True) v3 x1) ∧ Aside0 (Below w.heap.size w w'))
 case atStart => exact ⟨(y1), (wrap64 ((t1.length : Int) - 1)), zq1, H', ⟨Nat.le_refl _⟩, ⟨by (with_reducible repeat (first | apply Kd.V_alloc | apply Kd.V_drewN | apply Kd.V_drew)); exact Kd.V_mono O1.out (fun _ hk => hk.2)⟩, ⟨zR⟩, ⟨zH⟩⟩
 case round =>
  clear H'
  obtain ⟨x1, x2, rfl, HA, HK1, HO_0, HO_3, HB⟩ := hrel
  cases gk with
  | zero => exact absurd HA.out (by simp [R1text.l0])
  | succ k1 =>
   have H := HA.out
   clear HA
   simp only [R1text.l0] at H
   replace H := iL H
   rcases H with ⟨c3b0, H⟩ | ⟨c3b0, H⟩
   ·replace ⟨c4b0, H⟩ := iteD H
    replace ⟨c5b0, H⟩ := iteD H
    replace ⟨y2, Y2, H⟩ := bY H
    replace H := of_ite H
    obtain ⟨c6, H⟩ := H
    have LMc13 := Aside0.mk c6
    clear c6
    generalize yh2 : (x1 ++ y2 : List Int) = y3 at H
    have Y3 := Aside0.mk yh2.symm; clear yh2
    have H' := Aside0.mk H
    clear H
    obtain ⟨ad1, e1, hx1, p1, q1⟩ := atI (Kd.V_reads' HO_0.out).2.2 x2
    cases e1
    go_wp2_with (first | ((with_reducible refine gate_dst (N := 35) rfl ?_); refine Kd.R_lit (Kd.int .u8) _ 5 ?hg (N := 35) ?hd (xs := ([((rd t1 x2) / 16777216) % 256, ((rd t1 x2) / 65536) % 256, ((rd t1 x2) / 256) % 256, (rd t1 x2) % 256] : List Int)) (inner := [.int .u8 (((rd t1 x2) / 16777216) % 256), .int .u8 (((rd t1 x2) / 65536) % 256), .int .u8 (((rd t1 x2) / 256) % 256), .int .u8 ((rd t1 x2) % 256)]) (ok := fun _ => True) (okp := fun _ => True) ?hr ?hp (fun _ hk => hk) trivial (Below.refl _ _) (Nat.le_refl _) (by simp) ?_; (case hd => rfl); (case hg => rfl); (case hr => first | (go_simp; done) | (go_simp; rfl)); (case hp => exact (Reps.one (show Kd.M (Kd.int .u8) _ _ _ (((rd t1 x2) / 16777216) % 256) [.int .u8 (((rd t1 x2) / 16777216) % 256)] from rfl) (Reps.one (show Kd.M (Kd.int .u8) _ _ _ (((rd t1 x2) / 65536) % 256) [.int .u8 (((rd t1 x2) / 65536) % 256)] from rfl) (Reps.one (show Kd.M (Kd.int .u8) _ _ _ (((rd t1 x2) / 256) % 256) [.int .u8 (((rd t1 x2) / 256) % 256)] from rfl) (Reps.one (show Kd.M (Kd.int .u8) _ _ _ ((rd t1 x2) % 256) [.int .u8 ((rd t1 x2) % 256)] from rfl) (Reps.none _ _)))))); intro v5 w3 ho15 hb hg_ hnew_; clear hg_ hnew_; (first | rw [← Y2.out] at ho15 | (simp only [Int.reduceToNat] at ho15; rw [← Y2.out] at ho15)); have O3 := Aside0.mk (Kd.R_lower (Kd.R_new' ho15 (Kd.R_lt zq53)) (below_size zH)); replace HO_0 := Aside0.mk (Kd.V_elder' (by (with_reducible repeat (first | apply Kd.V_alloc | apply Kd.V_drewN | apply Kd.V_drew)); exact HO_0.out) (Kd.R_base ho15) hb); replace HO_3 := Aside0.mk (Kd.R_elder' zq53 (Kd.R_base ho15) hb); replace HB := sB hb; clear hb ho15; obtain ⟨P2, d2, u2⟩ := Kd.R_slice O3.out; subst u2) | ((with_reducible refine gate_builtin (b := .append) (xs := #[.tmp 23, .tmp 35]) rfl ?_); at_builtin; refine Kd.R_append_rows (Kd.int .u8) (w0 := w) w.heap.size rfl (.tmp 23) (.tmp 35) 95 5 (.int .u8 0) 1 rfl Tryz.underlying95 info5 rfl (by decide) (by omega) u3 x1 y2 _ _ _ (fun k_ => some k_ ≠ (.slice P2 y2.length d2 : Value).ownBlock) (fun _ => False) rfl rfl ?aO ?aR (fun _ _ h => h) (fun _ h => h.elim) ?aF ?aB ?aS ?aL ?_; (case aR => repeat (first | exact (Kd.R_reads' O3.out).2.2 | (with_reducible refine Kd.C_alloc ?_ _) | (with_reducible refine Kd.C_drewN ?_ _) | (with_reducible refine Kd.C_drew ?_))); (case aB => exact zH); (case aF => exact (fun k_ hk => Kd.fresh' (Kd.R_lt zq8) k_ hk)); (case aO => exact (by (with_reducible repeat (first | apply Kd.R_alloc | apply Kd.R_drewN | apply Kd.R_drew)); exact Kd.R_mono HO_3.out (fun _ hk => hk.2))); (case aS => exact (below_size zH)); (case aL => have := LMc13.out; omega); intro v6 w4 ho hb hg hat; rw [← Y3.out] at ho; have O4 := Aside0.mk (ho); replace HO_0 := Aside0.mk (Kd.V_afterv (ok := (fun k_ => some k_ ≠ (.slice P2 y2.length d2 : Value).ownBlock)) (by (with_reducible repeat (first | apply Kd.V_alloc | apply Kd.V_drewN | apply Kd.V_drew)); exact Kd.V_mono HO_0.out (fun _ hk => ⟨hk.2, hk.1⟩)) hg hat); replace O3 := Aside0.mk (Kd.R_after (ok := (fun _ => True)) zq8 hg hat); replace HB := Aside0.mk (hb); clear HO_3; clear ho hb hg hat))
    go_roundg k1
    case measure => have := HK1.out; omega
    case rel => exact ⟨(y3), (wrap64 (x2 - 1)), zq1, H', ⟨zq4⟩, ⟨by (with_reducible repeat (first | apply Kd.V_alloc | apply Kd.V_drewN | apply Kd.V_drew)); exact Kd.V_mono HO_0.out (fun _ hk => hk.2)⟩, ⟨by (with_reducible repeat (first | apply Kd.R_alloc | apply Kd.R_drewN | apply Kd.R_drew)); exact Kd.R_mono O4.out (fun _ hk => trivial)⟩, ⟨zH⟩⟩
   ·replace ⟨t2, A2, H⟩ := bS H
    obtain rfl := sI H
    have hcv19 := own_string (P := Tryz.prog) Tryz.underlying95 Tryz.underlying5 Tryz.underlying9 (Kd.own_of_R HO_3.out)
    go_wp2_with (refine gD 39 Tryz.func68 (R1Normalize.calls _ _ _ _ A2.out) fun nd => ?_)
    go_ret
    exact ⟨zq9, zH⟩
def R1order.l0 : Nat → List Int → List Int → Int → Option (Int)
 | 0, _, _, _ => none
 | k + 1, x0, x1, x5 => if x5 ≥ 0 then (if 0 ≤ x5 then (if x5 < (x0.length : Int) then (if x5 < (x1.length : Int) then (if (rd x0 x5) = (rd x1 x5) then (R1order.l0 k x0 x1 (wrap64 (x5 - 1))) else (if (rd x0 x5) < (rd x1 x5) then (some (-1)) else (some 1))) else (none)) else (none)) else (none)) else (some 0)
def R1order.f (k : Nat) (l0 l1 : List Int) : Option (Int) := if (l0.length : Int) = (l1.length : Int) then (R1order.l0 k l0 l1 (wrap64 ((l0.length : Int) - 1))) else (if (l0.length : Int) < (l1.length : Int) then (some (-1)) else (some 1))
theorem R1order.calls (k : Nat) (A0 : Option Addr) (c0 : Nat) (l0 : List Int) (A1 : Option Addr) (c1 : Nat) (l1 : List Int) (r : Int) (w : World) (hr0 : Kd.C (Kd.int .u32) w A0 l0.length l0) (hc0 : l0.length ≤ c0) (hr1 : Kd.C (Kd.int .u32) w A1 l1.length l1) (hc1 : l1.length ≤ c1) (H : R1order.f k l0 l1 = some r) :
 Calls Tryz.prog 49 #[.slice A0 l0.length c0, .slice A1 l1.length c1] w fun e w' => e = .returned (.int .i64 r) ∧ Drawn0 w w' := by
 have HR0 := Aside0.mk hr0
 have HC0 := Aside0.mk hc0
 clear hr0 hc0
 have HR1 := Aside0.mk hr1
 have HC1 := Aside0.mk hc1
 clear hr1 hc1
 unfold R1order.f at H
 by_cases c2 : (l0.length : Int) = (l1.length : Int)
 ·rw [if_pos c2] at H
  have c2b0 := beq_iff_eq.mpr c2
  have c2b1 : ((l0.length : Int) != (l1.length : Int)) = false := bne_eq_false_iff_eq.mpr c2
  have c2b2 : (l0.length == l1.length) = true := by first | simpa using c2 | (simp at c2 ⊢; omega)
  clear c2
  have H' := Aside0.mk H
  clear H
  go_enter Tryz.func49, Tryz.ntmps49
  go_wp2
  repeat (go_quiet (fail); try go_wp2)
  go_loopg [5] k (fun kq v1 w' => ∃ (x1 : Int), v1 = .int .i64 x1 ∧ Aside0 (R1order.l0 kq l0 l1 x1 = some r) ∧ Aside0 (kq ≤ k) ∧ Drawn0 w w')
  case atStart => exact ⟨(wrap64 ((l0.length : Int) - 1)), zq1, H', ⟨Nat.le_refl _⟩, zq7⟩
  case round =>
   clear H'
   obtain ⟨x1, rfl, HA, HK1, ⟨m1, rfl⟩⟩ := hrel
   cases gk with
   | zero => exact absurd HA.out (by simp [R1order.l0])
   | succ k1 =>
    have H := HA.out
    clear HA
    simp only [R1order.l0] at H
    replace H := iL H
    rcases H with ⟨c3b0, H⟩ | ⟨c3b0, H⟩
    ·replace ⟨c4b0, H⟩ := iteD H
     replace ⟨c5b0, H⟩ := iteD H
     replace ⟨c6b0, H⟩ := iteD H
     replace H := iQ H
     rcases H with ⟨c7b0, c7b1, H⟩ | ⟨c7b0, c7b1, H⟩
     ·have H' := Aside0.mk H
      clear H
      obtain ⟨ad1, e1, hx1, p1, q1⟩ := atI HR0.out x1
      cases e1
      obtain ⟨ad2, e2, hx2, p2, q2⟩ := atI HR1.out x1
      cases e2
      go_wp2
      repeat (go_quiet (fail); try go_wp2)
      go_roundg k1
      case measure => have := HK1.out; omega
      case rel => exact ⟨(wrap64 (x1 - 1)), zq1, H', ⟨zq4⟩, zq7⟩
     ·replace H := iL H
      rcases H with ⟨c8b0, H⟩ | ⟨c8b0, H⟩
      obtain rfl := sI H
      obtain ⟨ad1, e1, hx1, p1, q1⟩ := atI HR0.out x1
      cases e1
      obtain ⟨ad2, e2, hx2, p2, q2⟩ := atI HR1.out x1
      cases e2
      obtain ⟨ad3, e3, hx3, p3, q3⟩ := atI HR0.out x1
      obtain rfl : ad1 = ad3 := (by injection e3)
      obtain ⟨ad4, e4, hx4, p4, q4⟩ := atI HR1.out x1
      obtain rfl : ad2 = ad4 := (by injection e4)
      rotate_left
      obtain rfl := sI H
      obtain ⟨ad1, e1, hx1, p1, q1⟩ := atI HR0.out x1
      cases e1
      obtain ⟨ad2, e2, hx2, p2, q2⟩ := atI HR1.out x1
      cases e2
      obtain ⟨ad3, e3, hx3, p3, q3⟩ := atI HR0.out x1
      obtain rfl : ad1 = ad3 := (by injection e3)
      obtain ⟨ad4, e4, hx4, p4, q4⟩ := atI HR1.out x1
      obtain rfl : ad2 = ad4 := (by injection e4)
      rotate_left
      all_goals
       go_wp2
       repeat (go_quiet (fail); try go_wp2)
       go_ret
       exact ⟨zq1, zq7⟩
    ·obtain rfl := sI H
     go_wp2
     repeat (go_quiet (fail); try go_wp2)
     go_ret
     exact ⟨zq1, zq7⟩
 ·rw [if_neg c2] at H
  have c2b0 := beq_eq_false_iff_ne.mpr c2
  have c2b1 := bne_iff_ne.mpr c2
  have c2b2 : (l0.length == l1.length) = false := by first | simpa using c2 | (simp at c2 ⊢; omega)
  by_cases c3 : (l0.length : Int) < (l1.length : Int)
  rw [if_pos c3] at H
  have c3b0 := decide_eq_true c3
  have c3b1 : decide (l0.length < l1.length) = true := decide_eq_true (Int.ofNat_lt.mp c3)
  clear c3
  obtain rfl := sI H
  rotate_left
  rw [if_neg c3] at H
  have c3b0 := decide_eq_false c3
  have c3b1 : decide (l0.length < l1.length) = false := decide_eq_false (fun h => c3 (Int.ofNat_lt.mpr h))
  clear c3
  obtain rfl := sI H
  rotate_left
  all_goals
   go_enter Tryz.func49, Tryz.ntmps49
   go_wp2
   repeat (go_quiet (fail); try go_wp2)
   go_ret
   exact ⟨zq1, zq7⟩
def R1short.l0 : Nat → List Int → Int → List Int → Int → Int → Option (List Int × Int)
 | 0, _, _, _, _, _ => none
 | k + 1, x0, x1, x6, x7, x8 => if x8 ≥ 0 then (if 0 ≤ x8 then (if x8 < (x0.length : Int) then (if (IntKind.u64.wrap (x1)) = 0 then (none) else (if x8 < (x6.length : Int) then (R1short.l0 k x0 x1 (x6.set (x8 : Int).toNat ((IntKind.u64.wrap (Int.tdiv (Go.bits .or .u64 (IntKind.u64.wrap (x7 * 4294967296)) (IntKind.u64.wrap (rd x0 x8))) (IntKind.u64.wrap (x1)))) % 4294967296)) (Int.tmod (Go.bits .or .u64 (IntKind.u64.wrap (x7 * 4294967296)) (IntKind.u64.wrap (rd x0 x8))) (IntKind.u64.wrap (x1))) (wrap64 (x8 - 1))) else (none))) else (none)) else (none)) else ((R1strip.f k x6).bind fun t349 => (some (t349, (x7) % 4294967296)))
def R1short.f (k : Nat) (l0 : List Int) (a1 : Int) : Option (List Int × Int) := if 0 ≤ (l0.length : Int) then (if ((l0.length : Int) : Int).toNat ≤ 70368744177664 then (R1short.l0 k l0 a1 (List.replicate ((l0.length : Int) : Int).toNat 0) 0 (wrap64 ((l0.length : Int) - 1))) else (none)) else (none)
theorem R1short.calls (k : Nat) (A0 : Option Addr) (c0 : Nat) (l0 : List Int) (a1 : Int) (r1 : List Int) (r2 : Int) (w : World) (hr0 : Kd.C (Kd.int .u32) w A0 l0.length l0) (hc0 : l0.length ≤ c0) (H : R1short.f k l0 a1 = some (r1, r2)) :
 Calls Tryz.prog 81 #[.slice A0 l0.length c0, .int .u32 a1] w fun e w' => ∃ v0_ : Value, e = .returned (.tuple #[v0_, .int .u32 r2]) ∧ Kd.V (Kd.int .u32) 80 w' w.heap.size (fun k_ => (w.heap.size ≤ k_)) v0_ r1 ∧ Below w.heap.size w w' := by
 have HR0 := Aside0.mk hr0
 have HC0 := Aside0.mk hc0
 clear hr0 hc0
 have HB := Aside0.mk (Below.refl w.heap.size w)
 unfold R1short.f at H
 replace ⟨c1b0, c1b1, H⟩ := iteE H
 replace ⟨c2b0, c2b1, H⟩ := iteE H
 generalize yh1 : (List.replicate ((l0.length : Int) : Int).toNat 0 : List Int) = y1 at H
 have Y1 := Aside0.mk yh1.symm; clear yh1
 have H' := Aside0.mk H
 clear H
 go_enter Tryz.func81, Tryz.ntmps81
 go_wp2_with ((with_reducible refine gate_dst (N := 11) rfl ?_); refine Kd.R_make (Kd.int .u32) _ 80 rfl (N := 11) rfl 62 _ _ rfl (l0.length : Int) rfl rfl Tryz.underlying62 (.int .u32 0) 4 info80 rfl (by decide) (by omega) 0 (ok := fun _ => True) (okp := fun _ => True) rfl (fun _ hk => hk) trivial (of_decide_eq_true zq0) (Nat.le_trans (Nat.mul_le_mul_right _ (of_decide_eq_true zq0 : (l0.length : Int).toNat ≤ 70368744177664)) (by omega)) (Below.refl _ _) (Nat.le_refl _) ?_; intro v1 w2 ho6 hb hg_ hnew_; clear hg_ hnew_; (first | rw [← Y1.out] at ho6 | (simp only [Int.reduceToNat] at ho6; rw [← Y1.out] at ho6)); have O1 := Aside0.mk (Kd.R_lower (Kd.R_newM (M := fun k_ => (w.heap.size ≤ k_)) ho6 (below_size zH) (fun k_ h_ => h_)) (below_size zH)); replace HB := sB hb; clear hb ho6)
 go_loopg [7, 8] k (fun kq v2 v3 w' => ∃ (x1 : List Int) (x2 : Int) (x3 : Int), v2 = .int .u64 x2 ∧ v3 = .int .i64 x3 ∧ Aside0 (R1short.l0 kq l0 a1 x1 x2 x3 = some (r1, r2)) ∧ Aside0 (kq ≤ k) ∧ Aside0 (Kd.R (Kd.int .u32) 80 w' w.heap.size (fun k_ => (w.heap.size ≤ k_)) v1 x1) ∧ Aside0 (Below w.heap.size w w'))
 case atStart => exact ⟨(y1), (0), (wrap64 ((l0.length : Int) - 1)), zq1, zq1, H', ⟨Nat.le_refl _⟩, ⟨zq20⟩, ⟨zH⟩⟩
 case round =>
  clear H'
  obtain ⟨x1, x2, x3, rfl, rfl, HA, HK1, HO_6, HB⟩ := hrel
  cases gk with
  | zero => exact absurd HA.out (by simp [R1short.l0])
  | succ k1 =>
   have H := HA.out
   clear HA
   simp only [R1short.l0] at H
   replace H := iL H
   rcases H with ⟨c3b0, H⟩ | ⟨c3b0, H⟩
   ·replace ⟨c4b0, H⟩ := iteD H
    replace ⟨c5b0, H⟩ := iteD H
    by_cases c6 : (IntKind.u64.wrap (a1)) = 0
    ·rw [if_pos c6] at H
     exact absurd H (by simp)
    ·rw [if_neg c6] at H
     have c6b0 := beq_eq_false_iff_ne.mpr c6
     have c6b1 := bne_iff_ne.mpr c6
     replace ⟨c7b0, H⟩ := iteD H
     generalize yh2 : (x1.set (x3 : Int).toNat ((IntKind.u64.wrap (Int.tdiv (Go.bits .or .u64 (IntKind.u64.wrap (x2 * 4294967296)) (IntKind.u64.wrap (rd l0 x3))) (IntKind.u64.wrap (a1)))) % 4294967296) : List Int) = y2 at H
     have Y2 := Aside0.mk yh2.symm; clear yh2
     have H' := Aside0.mk H
     clear H
     obtain ⟨ad1, e1, hx1, p1, q1⟩ := atI HR0.out x3
     cases e1
     (try replace hx1 := hM HB hx1)
     have p2 : 0 ≤ (x3 : Int) := of_decide_eq_true zq0
     have q2 : (x3 : Int) < ((x1.length : Int) : Int) := of_decide_eq_true zq0
     obtain ⟨go1, d1, u1, g1, gl12, cl12, HG12⟩ := Kd.R_form HO_6.out (by omega)
     (first | cases u1 | (injection u1 with ea_ en_ ec_; (first | subst ea_ | (injection ea_ with ea_; subst ea_)); subst ec_; clear en_))
     have GB1 := Aside0.mk g1
     have GG12 := Aside0.mk HG12
     clear g1 gl12 HG12
     obtain ⟨hx2, hf12_0⟩ := Kd.R_celln 0 HO_6.out (x3 : Int) p2 q2
     (try simp only [Go.IntWalk.toNatUp] at hx2 hf12_0)
     replace p2 := eq_true p2
     replace q2 := eq_true q2
     have HP1 := Kd.R_putg HO_6.out (x3 : Int) ((IntKind.u64.wrap (Int.tdiv (Go.bits .or .u64 (IntKind.u64.wrap (x2 * 4294967296)) (IntKind.u64.wrap (rd l0 x3))) (IntKind.u64.wrap (a1)))) % 4294967296)
     go_wp2_with (refine stR 80 34 HP1 Y2 fun w3 hw hg hp_ => ?_; clear HP1; replace HO_6 := Aside0.mk (hp_); replace HB := bS2 hw HB GB1; clear hg hw hp_)
     go_roundg k1
     case measure => have := HK1.out; omega
     case rel => exact ⟨(y2), (Int.tmod (Go.bits .or .u64 (IntKind.u64.wrap (x2 * 4294967296)) (IntKind.u64.wrap (rd l0 x3))) (IntKind.u64.wrap (a1))), (wrap64 (x3 - 1)), zq1, zq1, H', ⟨zq4⟩, ⟨zR⟩, ⟨zH⟩⟩
   ·replace ⟨t1, A1, H⟩ := bS H
    simp only [Option.some.injEq, Prod.mk.injEq] at H
    obtain ⟨rfl, rfl⟩ := H
    obtain ⟨P1, d1, u1⟩ := Kd.R_slice HO_6.out
    subst u1
    go_wp2_with (refine gR 40 Tryz.func70 (R1strip.calls k1 (fun k_ => some k_ = (.slice P1 x1.length d1 : Value).ownBlock) _ _ x1 t1 _ ?side1 A1.out) fun v4 w3 ho0 hb => ?_; (case side1 => exact Kd.R_V (Kd.R_tight rfl (HO_6.out))); have O2 := Aside0.mk (Kd.V_lower (Kd.V_mono (ok' := fun k_ => (w.heap.size ≤ k_)) ho0 (fun k_ hk_ => Or.elim hk_ (fun hs_ => ((HO_6.out).1 k_ hs_.symm)) (fun hn_ => (Nat.le_trans (below_size zH) hn_)))) (below_size zH)); replace HO_6 := rB HO_6 hb; replace HB := sB hb; (try clear hb); (try clear ho0))
    go_ret2
    exact ⟨_, zE, zV, zH⟩
def R1shifted.l0 : Nat → List Int → Int → List Int → Int → Option (List Int)
 | 0, _, _, _, _ => none
 | k + 1, x0, x1, x5, x6 => if x6 < (x0.length : Int) then (if 0 ≤ x6 then (if 0 ≤ x1 then (if x1 ≤ 64 then (if x6 < (x5.length : Int) then (if 0 ≤ (wrap64 (x6 + 1)) then (if (wrap64 (x6 + 1)) < (x5.length : Int) then (R1shifted.l0 k x0 x1 ((x5.set (x6 : Int).toNat (Go.bits .or .u32 (rd x5 x6) ((IntKind.u64.wrap ((IntKind.u64.wrap (rd x0 x6)) * 2 ^ x1.toNat)) % 4294967296))).set ((wrap64 (x6 + 1)) : Int).toNat (((IntKind.u64.wrap ((IntKind.u64.wrap (rd x0 x6)) * 2 ^ x1.toNat)) / 4294967296) % 4294967296)) (wrap64 (x6 + 1))) else (none)) else (none)) else (none)) else (none)) else (none)) else (none)) else (some x5)
def R1shifted.f (k : Nat) (l0 : List Int) (a1 : Int) : Option (List Int) := if 0 ≤ (wrap64 ((l0.length : Int) + 1)) then (if (wrap64 ((l0.length : Int) + 1) : Int).toNat ≤ 70368744177664 then (R1shifted.l0 k l0 a1 (List.replicate (wrap64 ((l0.length : Int) + 1) : Int).toNat 0) 0) else (none)) else (none)
theorem R1shifted.calls (k : Nat) (A0 : Option Addr) (c0 : Nat) (l0 : List Int) (a1 : Int) (r : List Int) (w : World) (hr0 : Kd.C (Kd.int .u32) w A0 l0.length l0) (hc0 : l0.length ≤ c0) (H : R1shifted.f k l0 a1 = some r) :
 Calls Tryz.prog 94 #[.slice A0 l0.length c0, .int .u64 a1] w fun e w' => ∃ v0_ : Value, e = .returned (v0_) ∧ Kd.R (Kd.int .u32) 80 w' w.heap.size (fun _ => True) v0_ r ∧ Below w.heap.size w w' := by
 have HR0 := Aside0.mk hr0
 have HC0 := Aside0.mk hc0
 clear hr0 hc0
 have HB := Aside0.mk (Below.refl w.heap.size w)
 unfold R1shifted.f at H
 obtain ⟨j1, jh1, jh1w⟩ := jI ((l0.length : Int) + 1)
 first | rw [jh1] at H | simp only [jh1] at H
 replace ⟨c1b0, c1b1, H⟩ := iteE H
 replace ⟨c2b0, c2b1, H⟩ := iteE H
 generalize yh1 : (List.replicate (j1 : Int).toNat 0 : List Int) = y1 at H
 have Y1 := Aside0.mk yh1.symm; clear yh1
 have H' := Aside0.mk H
 clear H
 go_enter Tryz.func94, Tryz.ntmps94
 go_wp2_with ((with_reducible refine gate_dst (N := 11) rfl ?_); refine Kd.R_make (Kd.int .u32) _ 80 rfl (N := 11) rfl 62 _ _ rfl j1 rfl rfl Tryz.underlying62 (.int .u32 0) 4 info80 rfl (by decide) (by omega) 0 (ok := fun _ => True) (okp := fun _ => True) rfl (fun _ hk => hk) trivial (of_decide_eq_true zq0) (Nat.le_trans (Nat.mul_le_mul_right _ (of_decide_eq_true zq0 : j1.toNat ≤ 70368744177664)) (by omega)) (Below.refl _ _) (Nat.le_refl _) ?_; intro v1 w2 ho7 hb hg_ hnew_; clear hg_ hnew_; (first | rw [← Y1.out] at ho7 | (simp only [Int.reduceToNat] at ho7; rw [← Y1.out] at ho7)); have O1 := Aside0.mk (Kd.R_lower ho7 (below_size zH)); replace HB := sB hb; clear hb ho7)
 go_loopg [6] k (fun kq v2 w' => ∃ (x1 : List Int) (x2 : Int), v2 = .int .i64 x2 ∧ Aside0 (R1shifted.l0 kq l0 a1 x1 x2 = some r) ∧ Aside0 (kq ≤ k) ∧ Aside0 (Kd.R (Kd.int .u32) 80 w' w.heap.size (fun _ => True) v1 x1) ∧ Aside0 (Below w.heap.size w w'))
 case atStart => exact ⟨(y1), (0), zq1, H', ⟨Nat.le_refl _⟩, ⟨zR⟩, ⟨zH⟩⟩
 case round =>
  clear H'
  obtain ⟨x1, x2, rfl, HA, HK1, HO_5, HB⟩ := hrel
  cases gk with
  | zero => exact absurd HA.out (by simp [R1shifted.l0])
  | succ k1 =>
   have H := HA.out
   clear HA
   simp only [R1shifted.l0] at H
   replace H := iL H
   rcases H with ⟨c3b0, H⟩ | ⟨c3b0, H⟩
   ·replace ⟨c4b0, H⟩ := iteD H
    replace ⟨c5b0, c5b1, H⟩ := iteE H
    replace ⟨c6b0, c6b1, H⟩ := iteE H
    replace ⟨c7b0, H⟩ := iteD H
    generalize yh2 : (x1.set (x2 : Int).toNat (Go.bits .or .u32 (rd x1 x2) ((IntKind.u64.wrap ((IntKind.u64.wrap (rd l0 x2)) * 2 ^ a1.toNat)) % 4294967296)) : List Int) = y2 at H
    have Y2 := Aside0.mk yh2.symm; clear yh2
    obtain ⟨j2, jh2, jh2w⟩ := jI (x2 + 1)
    first | rw [jh2] at H | simp only [jh2] at H
    replace ⟨c8b0, H⟩ := iteD H
    replace ⟨c9b0, H⟩ := iteD H
    generalize yh3 : (y2.set ((j2) : Int).toNat (((IntKind.u64.wrap ((IntKind.u64.wrap (rd l0 x2)) * 2 ^ a1.toNat)) / 4294967296) % 4294967296) : List Int) = y3 at H
    have Y3 := Aside0.mk yh3.symm; clear yh3
    have H' := Aside0.mk H
    clear H
    obtain ⟨ad1, e1, hx1, p1, q1⟩ := atI HR0.out x2
    cases e1
    (try replace hx1 := hM HB hx1)
    obtain ⟨P1, d1, u1⟩ := Kd.R_slice HO_5.out
    subst u1
    obtain ⟨ad2, e2, hx2, p2, q2⟩ := atI (Kd.R_reads' HO_5.out).2.2 x2
    cases e2
    have p3 : 0 ≤ (x2 : Int) := of_decide_eq_true zq0
    have q3 : (x2 : Int) < ((x1.length : Int) : Int) := of_decide_eq_true zq0
    obtain ⟨go1, d2, u2, g1, gl13, cl13, HG13⟩ := Kd.R_form HO_5.out (by omega)
    (first | cases u2 | (injection u2 with ea_ en_ ec_; (first | subst ea_ | (injection ea_ with ea_; subst ea_)); subst ec_; clear en_))
    have GB1 := Aside0.mk g1
    have GG13 := Aside0.mk HG13
    clear g1 gl13 HG13
    (first | simp only [add_plain] at hx2 | skip)
    obtain ⟨hx3, hf13_0⟩ := Kd.R_celln 0 HO_5.out (x2 : Int) p3 q3
    (try simp only [Go.IntWalk.toNatUp] at hx3 hf13_0)
    replace p3 := eq_true p3
    replace q3 := eq_true q3
    have HP1 := Kd.R_putg HO_5.out (x2 : Int) (Go.bits .or .u32 (rd x1 x2) ((IntKind.u64.wrap ((IntKind.u64.wrap (rd l0 x2)) * 2 ^ a1.toNat)) % 4294967296))
    go_wp2_with (first | (refine stR 80 34 HP1 Y2 fun w3 hw hg hp_ => ?_; clear HP1; replace HO_5 := Aside0.mk (hp_); replace HB := bS2 hw HB GB1; clear hg hw hp_; have p4 : 0 ≤ ((j2) : Int) := of_decide_eq_true zq0; have q4 : ((j2) : Int) < ((x1.length : Int) : Int) := of_decide_eq_true zq0; obtain ⟨hx4, hf17_0⟩ := Kd.R_celln 0 HO_5.out ((j2) : Int) p4 q4; replace p4 := eq_true p4; replace q4 := eq_true q4; obtain ⟨hy21_, hz21_⟩ := Kd.R_celln 0 HO_5.out ((j2) : Int) (of_decide_eq_true zq0) (of_decide_eq_true zq0); have HP2 := Kd.R_putg HO_5.out ((j2) : Int) (((IntKind.u64.wrap ((IntKind.u64.wrap (rd l0 x2)) * 2 ^ a1.toNat)) / 4294967296) % 4294967296)) | (refine stR 80 41 HP2 Y3 fun w4 hw hg hp_ => ?_; clear HP2; replace HO_5 := Aside0.mk (hp_); replace HB := bS2 hw HB GB1; clear hg hw hp_))
    go_roundg k1
    case measure => have := HK1.out; omega
    case rel => exact ⟨(y3), (j2), zq27, H', ⟨zq4⟩, ⟨zR⟩, ⟨zH⟩⟩
   ·obtain rfl := sI H
    go_wp2
    go_ret
    exact ⟨_, zq9, zR, zH⟩
end Go.Proofs.YtggfilmdfpmbmaaGreatDoor.QN
end
