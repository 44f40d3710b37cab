/-
  Steps and laws behind the statement that the claim's last text proves: the words of the walks, the walks of the Go functions (printed by a program of this session's own, then shortened by one), and what they compute. Conditions: stated at each theorem.
-/
import Derived.Test.YtggfilmdfpmbmaaGreatDoorP8
import Derived.WalkKit
import Derived.ProofKit
import Derived.OpenShut
import Derived.ShutString
import Derived.ChangeOld
import Derived.Below
import Derived.Carry
import Derived.Deep.Slices
import Derived.Deep.Strs
import Derived.Lib.SmallJoins
section
namespace Go.Proofs.YtggfilmdfpmbmaaGreatDoor.V
open Go.ChangeShapes Go.WideShapes Go.RowKit Go.Proofs.YtggfilmdfpmbmaaGreatDoorW.PrintWords Go.Proofs.YtggfilmdfpmbmaaGreatDoor.QN
set_option linter.unusedVariables false
section
variable {H : Type} {enc : TypeId × Value → H} {W : World}
theorem row_open {P : Program} {α : Type} [Inhabited α] (kd : Kd α) {t e : TypeId} {A : Option Addr} {len c : Nat} {d : DataW H} {p : List MemPlace} (ht : P.underlying t = some (.slice e)) (hsz : P.cellsOf e = kd.sz)
    (hel : ∀ n cs x, DataW.trod enc P W 0 (fun _ => true) true n e cs = some x → ∃ a, kd.K W a cs) (h : DataW.Trod enc P W 0 (fun _ => true) true t (.slice A len c) d p) :
    ∃ l : List α, len = l.length ∧ Kd.C kd W A l.length l ∧ l.length ≤ c := by
  obtain ⟨fuel, hf⟩ := h
  rcases Go.Deep.open_slice ht hf with ⟨hcs, _⟩ | ⟨a, len', cap', m, n, D, Pl, hcs, _, hl, hm, hmm, _, hx⟩
  · simp [Value.cells] at hcs
    obtain ⟨rfl, rfl, rfl⟩ := hcs
    exact ⟨[], rfl, ⟨rfl, by simp, fun h => absurd h (by simp)⟩, by simp⟩
  · simp [Value.cells] at hcs
    obtain ⟨rfl, rfl, rfl⟩ := hcs
    have hml : len ≤ m := by rw [hmm]; simpa using hl
    obtain ⟨f, hF⟩ := Go.Deep.choose_lt (α := α) (n := len) (p := fun i x => ∃ cs', cs'.length = kd.sz ∧ kd.K W x cs' ∧ ∀ j u, cs'[j]? = some u → W.cell? (a.add (i * kd.sz + j)) = some u) (fun i hi => by
      obtain ⟨cs', h1, h2⟩ := hx i (by omega)
      obtain ⟨x, hk⟩ := hel _ _ _ h2
      obtain ⟨_, hlen, hcell⟩ := World.cells?_some h1
      refine ⟨x, cs', by rw [hlen, hsz], hk, fun j u hj => ?_⟩
      have hj' : j < cs'.length := (List.getElem?_eq_some_iff.1 hj).1
      have := hcell j (by rw [← hlen]; exact hj')
      rw [Go.Deep.add_add, hsz] at this
      rw [this, hj])
    refine ⟨(List.range len).map f, by simp, ⟨rfl, ?_, fun _ => ⟨a, rfl, fun j x hj => ?_⟩⟩, by simpa using hl⟩
    · have : maxLen ≤ 9223372036854775807 := by decide
      simp
      omega
    · rw [List.getElem?_map, Option.map_eq_some_iff] at hj
      obtain ⟨i, hi, rfl⟩ := hj
      obtain ⟨hlt, rfl⟩ := List.getElem?_eq_some_iff.1 hi
      rw [List.length_range] at hlt
      simpa using hF j hlt
end
abbrev kStp : Kd Stp := k29
instance : Inhabited Stp := ⟨z0⟩
theorem list4 {α : Type} {l : List α} (h : l.length = 4) : ∃ a b c d, l = [a, b, c, d] := by
  match l, h with
  | [a, b, c, d], _ => exact ⟨a, b, c, d, rfl⟩
set_option maxRecDepth 100000 in
theorem stp_el {H : Type} {enc : TypeId × Value → H} {W : World} (n : Nat) (cs : List Value) (x : DataW H × List MemPlace) (h : DataW.trod enc Tryz.prog W 0 (fun _ => true) true n 29 cs = some x) : ∃ a, kStp.K W a cs := by
  obtain ⟨y0, y1, n1, _, hl, h0, h1⟩ := trod_struct2 Tryz.underlying29 h
  have c4 : Tryz.prog.cellsOf 29 = 4 := by kernel_rfl
  rw [c4] at hl
  obtain ⟨x0, x1, x2, x3, rfl⟩ := list4 hl
  obtain ⟨z1, z2, z3, n2, _, hl2, g0, g1, g2⟩ := Go.Deep.trod_struct3 Tryz.underlying23 h1
  have e1 : Tryz.prog.cellsOf 3 = 1 := by kernel_rfl
  have e3 : Tryz.prog.cellsOf 23 = 3 := by kernel_rfl
  have eb : Tryz.prog.cellsOf 4 = 1 := by kernel_rfl
  have es : Tryz.prog.cellsOf 9 = 1 := by kernel_rfl
  obtain ⟨i0, q0, _, _⟩ := DataW.trod_int Tryz.underlying3 h0
  obtain ⟨b0, q1, _⟩ := DataW.trod_bool Tryz.underlying4 g0
  obtain ⟨s0, q2, _, _⟩ := DataW.trod_string Tryz.underlying9 g1
  obtain ⟨s1, q3, _, _⟩ := DataW.trod_string Tryz.underlying9 g2
  simp [e1] at q0
  simp [e3, eb] at q1
  simp [e3, es] at q2 q3
  subst q0; subst q1; subst q2; subst q3
  exact ⟨⟨i0, ⟨b0, s0, s1⟩⟩, k29_mk W ⟨i0, ⟨b0, s0, s1⟩⟩⟩
set_option maxRecDepth 100000 in
theorem steps_open {H : Type} {enc : TypeId × Value → H} {W : World} {A : Option Addr} {len c : Nat} {d : DataW H} {p : List MemPlace} (h : DataW.Trod enc Tryz.prog W 0 (fun _ => true) true 24 (.slice A len c) d p) :
    ∃ l : List Stp, len = l.length ∧ Kd.C kStp W A l.length l ∧ l.length ≤ c :=
  row_open kStp Tryz.underlying24 (by kernel_rfl) stp_el h
set_option maxRecDepth 100000 in
theorem rat_open {H : Type} {enc : TypeId × Value → H} {W : World} {r : Reach} {b : Nat} {v : Value} {d : DataW H} {p : List MemPlace} (hv : Value.okWide Tryz.prog W r b 23 v) (h : DataW.Trod enc Tryz.prog W 0 (fun _ => true) true 23 v d p) :
    ∃ x : T3, v = .agg #[.bool x.1, .string x.2.1, .string x.2.2] := by
  obtain ⟨v0, v1, v2, y0, y1, y2, n, rfl, _, _, g0, g1, g2⟩ := Go.Joins.open_agg3 Tryz.underlying23 (by kernel_rfl) (by kernel_rfl) hv h
  obtain ⟨b0, q1, _⟩ := DataW.trod_bool Tryz.underlying4 g0
  obtain ⟨s0, q2, _, _⟩ := DataW.trod_string Tryz.underlying9 g1
  obtain ⟨s1, q3, _, _⟩ := DataW.trod_string Tryz.underlying9 g2
  injection q1 with q1 _
  injection q2 with q2 _
  injection q3 with q3 _
  subst q1; subst q2; subst q3
  exact ⟨(b0, s0, s1), rfl⟩
end Go.Proofs.YtggfilmdfpmbmaaGreatDoor.V
end
