/-
  Steps and laws behind the statement that the claim's last text proves: the words of the walks, the walks of the Go functions (printed by a program of this session's own, then shortened by one), and what they compute. Conditions: stated at each theorem.
-/
import Derived.WalkKit
import Derived.ProofKit
import Derived.OpenShut
import Derived.ShutString
import Derived.ChangeOld
import Derived.Below
import Derived.Carry
import Derived.Deep.Slices
import Derived.Deep.Strs
import Derived.Lib.SmallJoins
import Derived.Test.YtggfilmdfpmbmaaGreatDoorP8
section
namespace Go.Proofs.YtggfilmdfpmbmaaGreatDoor.V
open Go.ChangeShapes Go.WideShapes Go.RowKit Go.Proofs.YtggfilmdfpmbmaaGreatDoorW.PrintWords Go.Proofs.YtggfilmdfpmbmaaGreatDoor.QN
set_option linter.unusedVariables false
theorem wf_of {k : IntKind} {x : Int} (h : (Lit.int k x).wf = true) : k.min ≤ x ∧ x ≤ k.max := by
  have h' : (decide (k.min ≤ x) && decide (x ≤ k.max)) = true := h
  rw [Bool.and_eq_true, decide_eq_true_eq, decide_eq_true_eq] at h'
  exact h'
theorem u16_of {x : Int} (h : (Lit.int .u16 x).wf = true) : u16 x := by
  have h1 := wf_of h
  rw [show IntKind.u16.min = 0 by rfl, show IntKind.u16.max = 65535 by rfl] at h1
  exact ⟨h1.1, by omega⟩
theorem u8_of {x : Int} (h : (Lit.int .u8 x).wf = true) : u8 x := by
  have h1 := wf_of h
  rw [show IntKind.u8.min = 0 by rfl, show IntKind.u8.max = 255 by rfl] at h1
  exact ⟨h1.1, by omega⟩
theorem row_openQ {H : Type} {enc : TypeId × Value → H} {W : World} {P : Program} {α : Type} [Inhabited α] (kd : Kd α) (Q : α → Prop) {t e : TypeId} {A : Option Addr} {len c : Nat} {d : DataW H} {p : List MemPlace} (ht : P.underlying t = some (.slice e)) (hsz : P.cellsOf e = kd.sz)
    (hel : ∀ n cs x, DataW.trod enc P W 0 (fun _ => true) true n e cs = some x → ∃ a, kd.K W a cs ∧ Q a) (h : DataW.Trod enc P W 0 (fun _ => true) true t (.slice A len c) d p) :
    ∃ l : List α, len = l.length ∧ Kd.C kd W A l.length l ∧ l.length ≤ c ∧ ∀ x ∈ l, Q x := by
  obtain ⟨fuel, hf⟩ := h
  rcases Go.Deep.open_slice ht hf with ⟨hcs, _⟩ | ⟨a, len', cap', m, n, D, Pl, hcs, _, hl, hm, hmm, _, hx⟩
  · simp [Value.cells] at hcs
    obtain ⟨rfl, rfl, rfl⟩ := hcs
    exact ⟨[], rfl, ⟨rfl, by simp, fun h => absurd h (by simp)⟩, by simp, fun x hx => by cases hx⟩
  · simp [Value.cells] at hcs
    obtain ⟨rfl, rfl, rfl⟩ := hcs
    have hml : len ≤ m := by rw [hmm]; simpa using hl
    obtain ⟨f, hF⟩ := Go.Deep.choose_lt (α := α) (n := len) (p := fun i x => (∃ cs', cs'.length = kd.sz ∧ kd.K W x cs' ∧ ∀ j u, cs'[j]? = some u → W.cell? (a.add (i * kd.sz + j)) = some u) ∧ Q x) (fun i hi => by
      obtain ⟨cs', h1, h2⟩ := hx i (by omega)
      obtain ⟨x, hk, hq⟩ := hel _ _ _ h2
      obtain ⟨_, hlen, hcell⟩ := World.cells?_some h1
      refine ⟨x, ⟨cs', by rw [hlen, hsz], hk, fun j u hj => ?_⟩, hq⟩
      have hj' : j < cs'.length := (List.getElem?_eq_some_iff.1 hj).1
      have := hcell j (by rw [← hlen]; exact hj')
      rw [Go.Deep.add_add, hsz] at this
      rw [this, hj])
    refine ⟨(List.range len).map f, by simp, ⟨rfl, ?_, fun _ => ⟨a, rfl, fun j x hj => ?_⟩⟩, by simpa using hl, fun x hx => ?_⟩
    · have : maxLen ≤ 9223372036854775807 := by decide
      simp
      omega
    · rw [List.getElem?_map, Option.map_eq_some_iff] at hj
      obtain ⟨i, hi, rfl⟩ := hj
      obtain ⟨hlt, rfl⟩ := List.getElem?_eq_some_iff.1 hi
      rw [List.length_range] at hlt
      simpa using (hF j hlt).1
    · obtain ⟨i, hi, rfl⟩ := List.mem_map.1 hx
      exact (hF i (List.mem_range.1 hi)).2
abbrev kPar : Kd Par := k52
instance : Inhabited Par := ⟨zp⟩
theorem list2 {α : Type} {l : List α} (h : l.length = 2) : ∃ a b, l = [a, b] := by
  match l, h with
  | [a, b], _ => exact ⟨a, b, rfl⟩
set_option maxRecDepth 100000 in
theorem par_el {H : Type} {enc : TypeId × Value → H} {W : World} (n : Nat) (cs : List Value) (x : DataW H × List MemPlace) (h : DataW.trod enc Tryz.prog W 0 (fun _ => true) true n 52 cs = some x) : ∃ a, kPar.K W a cs ∧ (u16 a.f0 ∧ u16 a.f1) := by
  obtain ⟨xs, m, _, _, hl, hxl, hel⟩ := DataW.trod_array Tryz.underlying52 h
  have c2 : Tryz.prog.cellsOf 52 = 2 := by kernel_rfl
  have c1 : Tryz.prog.cellsOf 37 = 1 := by kernel_rfl
  rw [c2] at hl
  obtain ⟨x0, x1, rfl⟩ := list2 hl
  obtain ⟨y0, y1, rfl⟩ := list2 hxl
  have h0 := hel 0 (by decide)
  have h1 := hel 1 (by decide)
  simp [c1] at h0 h1
  obtain ⟨i0, q0, _, w0⟩ := DataW.trod_int Tryz.underlying37 h0
  obtain ⟨i1, q1, _, w1⟩ := DataW.trod_int Tryz.underlying37 h1
  injection q0 with q0 _
  injection q1 with q1 _
  subst q0; subst q1
  exact ⟨⟨i0, i1⟩, k52_mk W ⟨i0, i1⟩, u16_of w0, u16_of w1⟩
set_option maxRecDepth 100000 in
theorem pairs_open {H : Type} {enc : TypeId × Value → H} {W : World} {A : Option Addr} {len c : Nat} {d : DataW H} {p : List MemPlace} (h : DataW.Trod enc Tryz.prog W 0 (fun _ => true) true 38 (.slice A len c) d p) :
    ∃ l : List Par, len = l.length ∧ Kd.C kPar W A l.length l ∧ l.length ≤ c ∧ ∀ x ∈ l, u16 x.f0 ∧ u16 x.f1 :=
  row_openQ kPar (fun x => u16 x.f0 ∧ u16 x.f1) Tryz.underlying38 (by kernel_rfl) par_el h
end Go.Proofs.YtggfilmdfpmbmaaGreatDoor.V
end
