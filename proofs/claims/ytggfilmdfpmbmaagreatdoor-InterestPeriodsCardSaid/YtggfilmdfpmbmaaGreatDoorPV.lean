/-
  Steps and laws behind the statement that the claim's last text proves: the words of the walks, the walks of the Go functions (printed by a program of this session's own, then shortened by one), and what they compute. Conditions: stated at each theorem.
-/
import Derived.Test.YtggfilmdfpmbmaaGreatDoorP0
import Derived.Laws.BitsLemmas
import Derived.IntWalk
section
namespace Go.Proofs.YtggfilmdfpmbmaaGreatDoor.V
open Go.RowKit Go.Proofs.YtggfilmdfpmbmaaGreatDoorW.PrintWords
set_option linter.unusedVariables false
def Ev {α : Type} (g : Nat → Option α) (r : α) : Prop := ∃ K, ∀ k, K ≤ k → g k = some r
theorem Ev.of {α : Type} {g : Nat → Option α} {r : α} (h : ∀ k, g k = some r) : Ev g r := ⟨0, fun k _ => h k⟩
theorem Ev.bind {α β : Type} {g : Nat → Option α} {h : Nat → α → Option β} {a : α} {r : β} (ha : Ev g a) (hr : Ev (fun k => h k a) r) : Ev (fun k => (g k).bind (h k)) r := by
  obtain ⟨K, hK⟩ := ha
  obtain ⟨L, hL⟩ := hr
  exact ⟨K + L, fun k hk => by simp only [hK k (by omega), Option.bind_some]; exact hL k (by omega)⟩
theorem Ev.succ {α : Type} {g h : Nat → Option α} {r : α} (e : ∀ k, g (k + 1) = h k) (hr : Ev h r) : Ev g r := by
  obtain ⟨K, hK⟩ := hr
  refine ⟨K + 1, fun k hk => ?_⟩
  obtain ⟨m, rfl⟩ : ∃ m, k = m + 1 := ⟨k - 1, by omega⟩
  rw [e]
  exact hK m (by omega)
theorem Ev.congr {α : Type} {g h : Nat → Option α} {r : α} (e : ∀ k, g k = h k) (hr : Ev h r) : Ev g r := by
  obtain ⟨K, hK⟩ := hr
  exact ⟨K, fun k hk => by rw [e]; exact hK k hk⟩
theorem w64 {x : Int} (h0 : -9223372036854775808 ≤ x) (h1 : x ≤ 9223372036854775807) : wrap64 x = x := by unfold wrap64; omega
theorem ix_tdiv {i : Nat} (h : i ≤ 4611686018427387904) : wrap64 (Int.tdiv (i : Int) 4) = ((i / 4 : Nat) : Int) := by
  rw [Int.tdiv_eq_ediv_of_nonneg (by omega), w64 (by omega) (by omega)]; omega
theorem ix_rev {n i : Nat} (hi : i < n) (hn : n ≤ 4611686018427387904) : wrap64 (wrap64 ((n : Int) - 1) - (i : Int)) = ((n - (i + 1) : Nat) : Int) := by
  rw [w64 (x := (n : Int) - 1) (by omega) (by omega), w64 (by omega) (by omega)]; omega
theorem ix_tmod (i : Nat) : wrap64 (8 * Int.tmod (i : Int) 4) = ((8 * (i % 4) : Nat) : Int) := by
  rw [Int.tmod_eq_emod_of_nonneg (by omega), w64 (by omega) (by omega)]; omega
theorem ix_succ {i : Nat} (h : i ≤ 4611686018427387904) : wrap64 ((i : Int) + 1) = ((i + 1 : Nat) : Int) := by rw [w64 (by omega) (by omega)]; omega
theorem ix_pred {i : Nat} (h : i + 1 ≤ 4611686018427387904) : wrap64 (((i + 1 : Nat) : Int) - 1) = (i : Int) := by rw [w64 (by omega) (by omega)]; omega
theorem ix_add {i j : Nat} (h : i + j ≤ 4611686018427387904) : wrap64 ((i : Int) + (j : Int)) = ((i + j : Nat) : Int) := by rw [w64 (by omega) (by omega)]; omega
theorem ix_sub {n m : Nat} (hm : m ≤ n) (hn : n ≤ 4611686018427387904) : wrap64 ((n : Int) - (m : Int)) = ((n - m : Nat) : Int) := by rw [w64 (by omega) (by omega)]; omega
theorem ix_lt {i n : Nat} (h : i < n) : (i : Int) < (n : Int) := Int.ofNat_lt.2 h
theorem ix_le {i n : Nat} (h : i ≤ n) : (i : Int) ≤ (n : Int) := Int.ofNat_le.2 h
theorem ix_nlt {i n : Nat} (h : n ≤ i) : ¬ (i : Int) < (n : Int) := fun g => Nat.not_lt.2 h (Int.ofNat_lt.1 g)
theorem ix_nn (n : Nat) : (0 : Int) ≤ (n : Int) := Int.natCast_nonneg n
theorem wu64 (x : Int) (h0 : 0 ≤ x) (h1 : x < 18446744073709551616) : IntKind.u64.wrap x = x := by
  simp [IntKind.wrap, IntKind.bits, IntKind.signed]; omega
theorem wu64' (x : Int) : IntKind.u64.wrap x = x % 18446744073709551616 := by simp [IntKind.wrap, IntKind.bits, IntKind.signed]
theorem wu32 (x : Int) (h0 : 0 ≤ x) (h1 : x < 4294967296) : IntKind.u32.wrap x = x := by
  simp [IntKind.wrap, IntKind.bits, IntKind.signed]; omega
theorem wraps_u64 (n : Int) (h₀ : 0 ≤ n) (h₁ : n < 2 ^ 64) : IntKind.u64.wrap n = n := wu64 n h₀ (by omega)
theorem wraps_u32 (n : Int) (h₀ : 0 ≤ n) (h₁ : n < 2 ^ 32) : IntKind.u32.wrap n = n := wu32 n h₀ (by omega)
theorem or64 {h l : Int} (h0 : 0 ≤ h) (h1 : h < 4294967296) (l0 : 0 ≤ l) (l1 : l < 4294967296) : Go.bits .or .u64 (h * 4294967296) l = h * 4294967296 + l :=
  bits_join .u64 64 (by decide) wraps_u64 32 _ _ (by omega) (by omega) (by omega) l0 (by omega) (by omega)
theorem bits_or_comm (k : IntKind) (x y : Int) : Go.bits .or k x y = Go.bits .or k y x := by
  unfold Go.bits
  simp only [BitVec.or_comm]
def lv : List Int → Int
  | [] => 0
  | x :: xs => x + 4294967296 * lv xs
def lok (l : List Int) : Prop := ∀ x ∈ l, 0 ≤ x ∧ x < 4294967296
def lcan (l : List Int) : Prop := lok l ∧ ∀ h : l ≠ [], l.getLast h ≠ 0
def BP (n : Nat) : Int := 4294967296 ^ n
theorem BP_zero : BP 0 = 1 := rfl
theorem BP_succ (n : Nat) : BP (n + 1) = 4294967296 * BP n := by unfold BP; rw [Int.pow_succ, Int.mul_comm]
theorem BP_pos (n : Nat) : 0 < BP n := Int.pow_pos (by decide)
theorem BP_add (m n : Nat) : BP (m + n) = BP m * BP n := Int.pow_add _ _ _
theorem BP_le {m n : Nat} (h : m ≤ n) : BP m ≤ BP n := by
  induction h with
  | refl => exact Int.le_refl _
  | step _ ih => rw [BP_succ]; have := BP_pos m; omega
theorem lok_nil : lok [] := fun x h => by cases h
theorem lok_cons {x : Int} {xs : List Int} (h0 : 0 ≤ x) (h1 : x < 4294967296) (h : lok xs) : lok (x :: xs) := fun y hy => by
  rcases List.mem_cons.1 hy with rfl | hy
  · exact ⟨h0, h1⟩
  · exact h y hy
theorem lok_tail {x : Int} {xs : List Int} (h : lok (x :: xs)) : lok xs := fun y hy => h y (List.mem_cons_of_mem _ hy)
theorem lok_head {x : Int} {xs : List Int} (h : lok (x :: xs)) : 0 ≤ x ∧ x < 4294967296 := h x List.mem_cons_self
theorem lv_nonneg {l : List Int} (h : lok l) : 0 ≤ lv l := by
  induction l with
  | nil => exact Int.le_refl _
  | cons x xs ih => have := ih (lok_tail h); have := lok_head h; unfold lv; omega
theorem lv_lt {l : List Int} (h : lok l) : lv l < BP l.length := by
  induction l with
  | nil => exact Int.zero_lt_one
  | cons x xs ih => have := ih (lok_tail h); have := lok_head h; unfold lv; rw [List.length_cons, BP_succ]; omega
theorem lv_append (a b : List Int) : lv (a ++ b) = lv a + BP a.length * lv b := by
  induction a with
  | nil => simp [lv, BP_zero]
  | cons x xs ih => simp only [List.cons_append, lv, ih, List.length_cons, BP_succ]; grind
theorem lok_append {a b : List Int} (ha : lok a) (hb : lok b) : lok (a ++ b) := fun x hx => (List.mem_append.1 hx).elim (ha x) (hb x)
theorem lok_append_left {a b : List Int} (h : lok (a ++ b)) : lok a := fun x hx => h x (List.mem_append_left _ hx)
theorem lok_take {l : List Int} (h : lok l) (n : Nat) : lok (l.take n) := fun x hx => h x (List.mem_of_mem_take hx)
theorem lok_drop {l : List Int} (h : lok l) (n : Nat) : lok (l.drop n) := fun x hx => h x (List.mem_of_mem_drop hx)
theorem lok_replicate (n : Nat) : lok (List.replicate n 0) := fun x hx => by rw [(List.mem_replicate.1 hx).2]; omega
theorem lv_replicate (n : Nat) : lv (List.replicate n 0) = 0 := by
  induction n with
  | zero => rfl
  | succ n ih => rw [List.replicate_succ]; unfold lv; rw [ih]; rfl
theorem lok_set {l : List Int} (h : lok l) {v : Int} (h0 : 0 ≤ v) (h1 : v < 4294967296) (i : Nat) : lok (l.set i v) := fun x hx => by
  rcases List.mem_or_eq_of_mem_set hx with hx | rfl
  · exact h x hx
  · exact ⟨h0, h1⟩
theorem rd_nat (l : List Int) (i : Nat) : rd l (i : Int) = l.getD i 0 := rfl
theorem rd_ok {l : List Int} (h : lok l) (i : Int) : 0 ≤ rd l i ∧ rd l i < 4294967296 := by
  unfold rd
  rw [List.getD_eq_getElem?_getD]
  cases e : l[i.toNat]? with
  | none => simp
  | some x => exact h x (List.mem_of_getElem? e)
theorem lv_set (l : List Int) (i : Nat) (v : Int) (h : i < l.length) : lv (l.set i v) = lv l + BP i * (v - l.getD i 0) := by
  induction l generalizing i with
  | nil => simp at h
  | cons x xs ih =>
    cases i with
    | zero => simp only [List.set_cons_zero, lv, BP_zero, List.getD_cons_zero]; omega
    | succ i =>
      simp only [List.set_cons_succ, lv, List.getD_cons_succ]
      rw [ih i (by simpa using h), BP_succ]
      grind
theorem lv_take_succ (l : List Int) (i : Nat) (h : i < l.length) : lv (l.take (i + 1)) = lv (l.take i) + BP i * l.getD i 0 := by
  rw [List.take_succ_eq_append_getElem h, lv_append]
  simp only [lv, List.length_take, Nat.min_eq_left (Nat.le_of_lt h)]
  rw [List.getD_eq_getElem?_getD, List.getElem?_eq_getElem h, Option.getD_some, Int.mul_zero, Int.add_zero]
theorem lv_split (l : List Int) (n : Nat) (h : n ≤ l.length) : lv l = lv (l.take n) + BP n * lv (l.drop n) := by
  have := lv_append (l.take n) (l.drop n)
  rw [List.take_append_drop, List.length_take, Nat.min_eq_left h] at this
  exact this
theorem lcan_nil : lcan [] := ⟨lok_nil, fun h => absurd rfl h⟩
theorem lcan_pos {l : List Int} (h : lcan l) (hn : l ≠ []) : BP (l.length - 1) ≤ lv l := by
  have hl := h.2 hn
  have hk := h.1 _ (List.getLast_mem hn)
  have e := lv_append l.dropLast [l.getLast hn]
  rw [List.dropLast_concat_getLast hn, List.length_dropLast] at e
  have h1 := lv_nonneg (lok_append_left (by rw [List.dropLast_concat_getLast hn]; exact h.1) : lok l.dropLast)
  have h2 := BP_pos (l.length - 1)
  have h3 : BP (l.length - 1) * 1 ≤ BP (l.length - 1) * l.getLast hn := Int.mul_le_mul_of_nonneg_left (by omega) (by omega)
  simp only [lv] at e
  rw [Int.mul_zero, Int.add_zero] at e
  omega
theorem lcan_zero {l : List Int} (h : lcan l) : lv l = 0 ↔ l = [] := by
  constructor
  · intro h0
    refine Classical.byContradiction fun hn => ?_
    have := lcan_pos h hn
    have := BP_pos (l.length - 1)
    omega
  · rintro rfl; rfl
theorem BP_lt_of {m n : Nat} (h : BP m < BP n) : m < n := by
  refine Nat.lt_of_not_le fun hle => ?_
  have := BP_le hle
  omega
theorem lcan_len {a b : List Int} (ha : lcan a) (hb : lok b) (h : lv a ≤ lv b) : a.length ≤ b.length := by
  by_cases hn : a = []
  · subst hn; exact Nat.zero_le _
  · have h1 := lcan_pos ha hn
    have h2 := lv_lt hb
    have h3 := BP_lt_of (show BP (a.length - 1) < BP b.length by omega)
    omega
theorem lok_inj {a b : List Int} (ha : lok a) (hb : lok b) (hl : a.length = b.length) (h : lv a = lv b) : a = b := by
  induction a generalizing b with
  | nil => exact (List.eq_nil_of_length_eq_zero hl.symm).symm
  | cons x xs ih =>
    cases b with
    | nil => simp at hl
    | cons y ys =>
      have h1 := lok_head ha
      have h2 := lok_head hb
      simp only [lv] at h
      have e1 : x = y := by omega
      have e2 : lv xs = lv ys := by omega
      rw [e1, ih (lok_tail ha) (lok_tail hb) (by simpa using hl) e2]
theorem lcan_inj {a b : List Int} (ha : lcan a) (hb : lcan b) (h : lv a = lv b) : a = b :=
  lok_inj ha.1 hb.1 (Nat.le_antisymm (lcan_len ha hb.1 (by omega)) (lcan_len hb ha.1 (by omega))) h
def lm (n : Nat) : List Int := if h : n = 0 then [] else ((n % 4294967296 : Nat) : Int) :: lm (n / 4294967296)
  termination_by n
  decreasing_by exact Nat.div_lt_self (by omega) (by decide)
theorem lm_lv (n : Nat) : lv (lm n) = n := by
  induction n using Nat.strongRecOn with
  | _ n ih =>
    unfold lm
    split
    · simp [lv, *]
    · simp only [lv]
      rw [ih (n / 4294967296) (Nat.div_lt_self (by omega) (by decide))]
      omega
theorem lm_can (n : Nat) : lcan (lm n) := by
  induction n using Nat.strongRecOn with
  | _ n ih =>
    unfold lm
    split
    · exact lcan_nil
    · rename_i hn
      have h := ih (n / 4294967296) (Nat.div_lt_self (by omega) (by decide))
      refine ⟨lok_cons (by omega) (by omega) h.1, fun _ => ?_⟩
      by_cases h0 : lm (n / 4294967296) = []
      · simp only [h0, List.getLast_singleton]
        have := lm_lv (n / 4294967296)
        rw [h0] at this
        simp only [lv] at this
        omega
      · rw [List.getLast_cons h0]
        exact h.2 h0
theorem lcan_lm {l : List Int} (h : lcan l) : l = lm (lv l).toNat :=
  lcan_inj h (lm_can _) (by rw [lm_lv]; have := lv_nonneg h.1; omega)
theorem lm_nil {n : Nat} : lm n = [] ↔ n = 0 := by
  rw [← lcan_zero (lm_can n), lm_lv]
  omega
def bv : List UInt8 → Nat
  | [] => 0
  | b :: bs => b.toNat * 256 ^ bs.length + bv bs
theorem bv_append (a b : List UInt8) : bv (a ++ b) = bv a * 256 ^ b.length + bv b := by
  induction a with
  | nil => simp [bv]
  | cons x xs ih => simp only [List.cons_append, bv, ih, List.length_append]; rw [Nat.pow_add]; grind
theorem bv_lt (l : List UInt8) : bv l < 256 ^ l.length := by
  induction l with
  | nil => simp [bv]
  | cons x xs ih =>
    have h1 := x.toNat_lt
    simp only [bv, List.length_cons, Nat.pow_succ]
    have : x.toNat * 256 ^ xs.length ≤ 255 * 256 ^ xs.length := Nat.mul_le_mul_right _ (by omega)
    omega
def encL (n : Nat) : List UInt8 := if h : n = 0 then [] else encL (n / 256) ++ [UInt8.ofNat (n % 256)]
  termination_by n
  decreasing_by exact Nat.div_lt_self (by omega) (by decide)
def enc (n : Nat) : ByteArray := ⟨(encL n).toArray⟩
def sv (s : ByteArray) : Nat := bv s.data.toList
theorem bv_encL (n : Nat) : bv (encL n) = n := by
  induction n using Nat.strongRecOn with
  | _ n ih =>
    unfold encL
    split
    · simp [bv, *]
    · rw [bv_append, ih (n / 256) (Nat.div_lt_self (by omega) (by decide))]
      simp only [bv, List.length_singleton, List.length_nil, Nat.pow_zero, Nat.mul_one, Nat.add_zero, Nat.pow_one, UInt8.toNat_ofNat']
      omega
theorem sv_enc (n : Nat) : sv (enc n) = n := bv_encL n
def bcan (l : List UInt8) : Prop := l.head? ≠ some 0
theorem bcan_enc (l : List UInt8) (h : bcan l) : l = encL (bv l) := by
  suffices ∀ n (l : List UInt8), l.length = n → bcan l → l = encL (bv l) from this _ l rfl h
  intro n
  induction n with
  | zero =>
    intro l hl _
    obtain rfl := List.eq_nil_of_length_eq_zero hl
    unfold encL; simp [bv]
  | succ n ih =>
    intro l hl hc
    have hne : l ≠ [] := fun h => by rw [h] at hl; simp at hl
    have e := List.dropLast_concat_getLast hne
    have hlt := (l.getLast hne).toNat_lt
    have e2 : bv l = bv l.dropLast * 256 + (l.getLast hne).toNat := by
      conv => lhs; rw [← e]
      rw [bv_append]; simp [bv]
    have hd : l.dropLast = [] ∨ bcan l.dropLast := by
      by_cases h0 : l.dropLast = []
      · exact .inl h0
      · refine .inr ?_
        have : l.head? = l.dropLast.head? := by
          conv => lhs; rw [← e]
          cases hh : l.dropLast with
          | nil => exact absurd hh h0
          | cons a as_ => rfl
        unfold bcan; rw [← this]; exact hc
    have hpos : bv l ≠ 0 := by
      intro h0
      rcases hd with h1 | h1
      · rw [h1] at e e2
        have : (l.getLast hne).toNat = 0 := by omega
        have h3 : l.getLast hne = 0 := UInt8.toNat_inj.1 (by simpa using this)
        rw [← e, h3] at hc
        exact hc rfl
      · have h2 : bv l.dropLast = 0 := by omega
        have h3 := ih l.dropLast (by rw [List.length_dropLast]; omega) h1
        rw [h2] at h3
        unfold encL at h3
        simp only [dite_true] at h3
        rw [h3] at e e2
        have : (l.getLast hne).toNat = 0 := by omega
        have h4 : l.getLast hne = 0 := UInt8.toNat_inj.1 (by simpa using this)
        rw [← e, h4] at hc
        exact hc rfl
    unfold encL
    rw [dif_neg hpos]
    have q1 : bv l / 256 = bv l.dropLast := by omega
    have q2 : bv l % 256 = (l.getLast hne).toNat := by omega
    rw [q1, q2]
    have e3 : UInt8.ofNat (l.getLast hne).toNat = l.getLast hne := by simp
    rw [e3]
    have e4 : l.dropLast = encL (bv l.dropLast) := by
      rcases hd with h1 | h1
      · rw [h1]; unfold encL; simp [bv]
      · exact ih l.dropLast (by rw [List.length_dropLast]; omega) h1
    rw [← e4]
    exact e.symm
theorem encL_can (n : Nat) : bcan (encL n) := by
  induction n using Nat.strongRecOn with
  | _ n ih =>
    unfold encL
    split
    · simp [bcan]
    · rename_i hn
      have h := ih (n / 256) (Nat.div_lt_self (by omega) (by decide))
      cases hh : encL (n / 256) with
      | nil =>
        have h2 := bv_encL (n / 256)
        rw [hh] at h2
        simp only [bv] at h2
        simp only [List.nil_append, bcan, List.head?_cons]
        intro h3
        have h4 := congrArg UInt8.toNat (Option.some.inj h3)
        simp at h4
        omega
      | cons a as_ =>
        rw [hh] at h
        simpa [bcan] using h
theorem encL_nil {n : Nat} : encL n = [] ↔ n = 0 := by
  constructor
  · intro h
    have := bv_encL n
    rw [h] at this
    exact this.symm
  · rintro rfl; unfold encL; rfl
theorem encL_len (n : Nat) (m : Nat) (h : n < 256 ^ m) : (encL n).length ≤ m := by
  induction m generalizing n with
  | zero => have : n = 0 := by simpa using h
            rw [encL_nil.2 this]; simp
  | succ m ih =>
    unfold encL
    split
    · simp
    · rw [List.length_append, List.length_singleton]
      have := ih (n / 256) (by rw [Nat.pow_succ] at h; omega)
      omega
theorem enc_size (n m : Nat) (h : n < 256 ^ m) : (enc n).size ≤ m := encL_len n m h
theorem enc_inj {a b : Nat} (h : enc a = enc b) : a = b := by rw [← sv_enc a, ← sv_enc b, h]
theorem sv_lt (s : ByteArray) : sv s < 256 ^ s.size := bv_lt _
theorem ba_ext {a b : ByteArray} (h : a.data.toList = b.data.toList) : a = b := by
  cases a; cases b; congr 1; exact Array.toList_inj.1 h
end Go.Proofs.YtggfilmdfpmbmaaGreatDoor.V
end
