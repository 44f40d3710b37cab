/-
  Steps and laws behind the statement that the claim's last text proves: the words of the walks, the walks of the Go functions (printed by a program of this session's own, then shortened by one), and what they compute. Conditions: stated at each theorem.
-/
import Derived.Test.YtggfilmdfpmbmaaGreatDoorPV
import Derived.Test.YtggfilmdfpmbmaaGreatDoorP6
import Derived.Test.YtggfilmdfpmbmaaGreatDoorP4
import Derived.Test.YtggfilmdfpmbmaaGreatDoorP9
import Derived.Test.YtggfilmdfpmbmaaGreatDoorP7
import Derived.Test.YtggfilmdfpmbmaaGreatDoorP13
import Derived.Test.YtggfilmdfpmbmaaGreatDoorP5
import Derived.Test.YtggfilmdfpmbmaaGreatDoorP12
import Derived.Test.YtggfilmdfpmbmaaGreatDoorP11
import Derived.Test.YtggfilmdfpmbmaaGreatDoorP10
section
namespace Go.Proofs.YtggfilmdfpmbmaaGreatDoor.V
set_option linter.unusedVariables false
abbrev T3 := Bool × ByteArray × ByteArray
theorem enc_zero : enc 0 = ⟨#[]⟩ := by unfold enc encL; rw [dif_pos rfl]
def sg (b : Bool) (n : Nat) : Int := if b then -(n : Int) else n
def dB (d : Nat) : ByteArray := if d = 1 then ⟨#[]⟩ else enc d
def tri (q : Rat) : T3 := (decide (q.num < 0), enc q.num.natAbs, dB q.den)
def okT (t : T3) : Prop := enc (sv t.2.1) = t.2.1 ∧ enc (sv t.2.2) = t.2.2 ∧ (if sv t.2.1 = 0 then t.1 = false ∧ sv t.2.2 = 0 else sv t.2.2 = 0 ∨ (sv t.2.2 ≠ 1 ∧ Nat.gcd (sv t.2.1) (sv t.2.2) = 1))
instance (t : T3) : Decidable (okT t) := by unfold okT; infer_instance
def dN (t : T3) : Nat := if sv t.2.2 = 0 then 1 else sv t.2.2
def val3 (t : T3) : Rat := if okT t then mkRat (sg t.1 (sv t.2.1)) (dN t) else 0
theorem sv_nil : sv ⟨#[]⟩ = 0 := by rw [← enc_zero, sv_enc]
theorem sg_abs (b : Bool) (n : Nat) : (sg b n).natAbs = n := by unfold sg; cases b <;> simp
theorem sg_num (q : Rat) : sg (decide (q.num < 0)) q.num.natAbs = q.num := by
  unfold sg
  by_cases h : q.num < 0
  · rw [decide_eq_true h, if_pos rfl]; omega
  · rw [decide_eq_false h, if_neg (by simp)]; omega
theorem sg_neg_iff (b : Bool) (n : Nat) : sg b n < 0 ↔ b = true ∧ n ≠ 0 := by
  unfold sg
  cases b
  · simp
  · simp; omega
theorem sg_div (b : Bool) (n g : Nat) (h : g ∣ n) : sg b n / (g : Int) = sg b (n / g) := by
  unfold sg
  cases b
  · simp
  · rw [if_pos rfl, if_pos rfl, Int.neg_ediv_of_dvd (Int.natCast_dvd_natCast.2 h), Int.natCast_ediv]
theorem mk_num (b : Bool) (n d : Nat) (hd : d ≠ 0) : (mkRat (sg b n) d).num = sg b (n / Nat.gcd n d) := by
  rw [Rat.num_mkRat, if_neg hd, sg_abs, Nat.gcd_comm, sg_div b n _ (Nat.gcd_dvd_left n d)]
theorem mk_den (b : Bool) (n d : Nat) (hd : d ≠ 0) : (mkRat (sg b n) d).den = d / Nat.gcd n d := by
  rw [Rat.den_mkRat, if_neg hd, sg_abs, Nat.gcd_comm]
theorem gq_pos {n g : Nat} (hn : n ≠ 0) (hg : g ∣ n) : n / g ≠ 0 := by
  obtain ⟨c, rfl⟩ := hg
  rcases Nat.eq_zero_or_pos g with rfl | hp
  · simp at hn
  · rw [Nat.mul_div_cancel_left c hp]; intro h; subst h; simp at hn
theorem tri_zero : tri 0 = (false, ⟨#[]⟩, ⟨#[]⟩) := by
  unfold tri dB
  simp [enc_zero]
theorem tri_mk (b : Bool) (n d : Nat) (hn : n ≠ 0) (hd : d ≠ 0) : tri (mkRat (sg b n) d) = (b, enc (n / Nat.gcd n d), dB (d / Nat.gcd n d)) := by
  unfold tri
  rw [mk_num b n d hd, mk_den b n d hd, sg_abs]
  have h := gq_pos hn (Nat.gcd_dvd_left n d)
  have : decide (sg b (n / n.gcd d) < 0) = b := by
    cases b
    · exact decide_eq_false (fun h1 => absurd ((sg_neg_iff _ _).1 h1).1 (by decide))
    · exact decide_eq_true ((sg_neg_iff _ _).2 ⟨rfl, h⟩)
  rw [this]
theorem tri_mk0 (b : Bool) (d : Nat) : tri (mkRat (sg b 0) d) = (false, ⟨#[]⟩, ⟨#[]⟩) := by
  have : sg b 0 = 0 := by unfold sg; cases b <;> rfl
  rw [this, Rat.zero_mkRat, tri_zero]
theorem sv_dB (d : Nat) : sv (dB d) = if d = 1 then 0 else d := by
  unfold dB
  split
  · exact sv_nil
  · exact sv_enc d
theorem okT_tri (q : Rat) : okT (tri q) := by
  unfold okT tri
  simp only [sv_enc, sv_dB]
  refine ⟨trivial, ?_, ?_⟩
  · unfold dB
    split
    · exact enc_zero
    · rfl
  · by_cases h : q.num.natAbs = 0
    · rw [if_pos h]
      have h0 : q = 0 := Rat.num_eq_zero.1 (by omega)
      subst h0
      exact ⟨rfl, rfl⟩
    · rw [if_neg h]
      by_cases hd : q.den = 1
      · left; rw [if_pos hd]
      · right; rw [if_neg hd]
        exact ⟨hd, q.reduced⟩
theorem dN_tri (q : Rat) : dN (tri q) = q.den := by
  unfold dN tri
  simp only [sv_dB]
  by_cases hd : q.den = 1
  · rw [if_pos hd, if_pos rfl, hd]
  · rw [if_neg hd, if_neg q.den_nz]
theorem val_tri (q : Rat) : val3 (tri q) = q := by
  unfold val3
  rw [if_pos (okT_tri q), dN_tri]
  show mkRat (sg (decide (q.num < 0)) (sv (enc q.num.natAbs))) q.den = q
  rw [sv_enc, sg_num, Rat.mkRat_self]
theorem tri_val {t : T3} (h : okT t) : tri (val3 t) = t := by
  unfold val3
  rw [if_pos h]
  obtain ⟨b, x, y⟩ := t
  obtain ⟨hx, hy, hc⟩ := h
  unfold dN
  simp only at hx hy hc ⊢
  by_cases h0 : sv x = 0
  · rw [if_pos h0] at hc
    rw [h0, tri_mk0, hc.1, ← hx, ← hy, h0, hc.2, enc_zero]
  · rw [if_neg h0] at hc
    by_cases hd : sv y = 0
    · rw [if_pos hd, tri_mk b _ 1 h0 (by decide), Nat.gcd_one_right, Nat.div_one, hx, ← hy, hd, enc_zero]
      rfl
    · rw [if_neg hd]
      rcases hc with hc | ⟨h1, hg⟩
      · exact absurd hc hd
      · rw [tri_mk b _ _ h0 hd, hg, Nat.div_one, Nat.div_one, hx]
        unfold dB
        rw [if_neg h1, hy]
theorem val_bad {t : T3} (h : ¬ okT t) : val3 t = 0 := if_neg h
theorem add_mk (p q : Rat) : p + q = mkRat (p.num * q.den + q.num * p.den) (p.den * q.den) := by rw [Rat.add_def, Rat.normalize_eq_mkRat]
theorem mul_mk (p q : Rat) : p * q = mkRat (p.num * q.num) (p.den * q.den) := by rw [Rat.mul_def, Rat.normalize_eq_mkRat]
theorem sg_mul (a b : Bool) (m n : Nat) : sg a m * sg b n = sg (a != b) (m * n) := by
  unfold sg
  cases a <;> cases b <;> simp [Int.neg_mul, Int.mul_neg]
theorem sg_add (a : Bool) (m n : Nat) : sg a m + sg a n = sg a (m + n) := by
  unfold sg
  cases a <;> simp
  omega
theorem sg_sub (a b : Bool) (m n : Nat) (hab : a ≠ b) (h : n ≤ m) : sg a m + sg b n = sg a (m - n) := by
  unfold sg
  cases a <;> cases b <;> simp at hab ⊢ <;> omega
theorem sg_sub' (a b : Bool) (m n : Nat) (hab : a ≠ b) (h : m ≤ n) : sg a m + sg b n = sg b (n - m) := by rw [Int.add_comm, sg_sub b a n m (Ne.symm hab) h]
theorem sg_nmul (a : Bool) (m n : Nat) : sg a m * (n : Int) = sg a (m * n) := by
  unfold sg
  cases a <;> simp [Int.neg_mul]
def sgn (q : Rat) : Bool := decide (q.num < 0)
def mag (q : Rat) : Nat := q.num.natAbs
theorem num_sg (q : Rat) : q.num = sg (sgn q) (mag q) := (sg_num q).symm
theorem mul_law (p q : Rat) : p * q = mkRat (sg (sgn p != sgn q) (mag p * mag q)) (p.den * q.den) := by
  rw [mul_mk, num_sg p, num_sg q, sg_mul]
theorem add_sg (p q : Rat) : p + q = mkRat (sg (sgn p) (mag p * q.den) + sg (sgn q) (mag q * p.den)) (p.den * q.den) := by
  rw [add_mk, ← sg_nmul, ← sg_nmul, ← num_sg, ← num_sg]
theorem add_same (p q : Rat) (h : p.den = q.den) : p + q = mkRat (sg (sgn p) (mag p) + sg (sgn q) (mag q)) p.den := by
  rw [add_mk, ← num_sg, ← num_sg, ← h, ← Int.add_mul, Int.mul_comm, Rat.mkRat_mul_left p.den_nz]
theorem div_law (p q : Rat) (hq : q ≠ 0) : p / q = mkRat (sg (sgn p != sgn q) (mag p * q.den)) (p.den * mag q) := by
  have hm : mag q ≠ 0 := by
    intro h
    exact hq (Rat.num_eq_zero.1 (by unfold mag at h; omega))
  have h1 : q * (mkRat (sg (sgn p != sgn q) (mag p * q.den)) (p.den * mag q)) = p := by
    conv => lhs; lhs; rw [← Rat.mkRat_self q]
    rw [Rat.mkRat_mul_mkRat, num_sg q, sg_mul]
    conv => rhs; rw [← Rat.mkRat_self p, num_sg p]
    rw [Rat.mkRat_eq_iff (Nat.mul_ne_zero q.den_nz (Nat.mul_ne_zero p.den_nz hm)) p.den_nz, sg_nmul, sg_nmul]
    have e : (sgn q != (sgn p != sgn q)) = sgn p := by cases sgn q <;> cases sgn p <;> rfl
    rw [e]
    congr 1
    grind
  have h2 : mkRat (sg (sgn p != sgn q) (mag p * q.den)) (p.den * mag q) = (q * (mkRat (sg (sgn p != sgn q) (mag p * q.den)) (p.den * mag q))) / q := by
    grind
  rw [h1] at h2
  exact h2.symm
theorem neg_sgn (q : Rat) : tri (-q) = (!(tri q).1 && decide ((tri q).2.1 ≠ ⟨#[]⟩), (tri q).2.1, (tri q).2.2) := by
  have hz : (enc q.num.natAbs = ⟨#[]⟩) ↔ q.num = 0 := by
    rw [← enc_zero]
    exact ⟨fun h => by have := enc_inj h; omega, fun h => by rw [h]; rfl⟩
  unfold tri
  simp only [Rat.neg_num, Rat.neg_den, Int.natAbs_neg]
  congr 1
  rcases Int.lt_trichotomy q.num 0 with h | h | h
  · rw [decide_eq_true h, decide_eq_false (show ¬ (-q.num < 0) by omega)]; rfl
  · rw [decide_eq_false (show ¬ (q.num < 0) by omega), decide_eq_false (show ¬ (-q.num < 0) by omega), show decide (enc q.num.natAbs ≠ ⟨#[]⟩) = false from decide_eq_false (fun h1 => h1 (hz.2 h))]; rfl
  · rw [decide_eq_false (show ¬ (q.num < 0) by omega), decide_eq_true (show -q.num < 0 by omega), show decide (enc q.num.natAbs ≠ ⟨#[]⟩) = true from decide_eq_true (fun h1 => by have := hz.1 h1; omega)]; rfl
def Bd (e : Nat) (q : Rat) : Prop := mag q < 256 ^ e ∧ q.den < 256 ^ e
theorem pow_up {e f : Nat} (h : e ≤ f) : 256 ^ e ≤ 256 ^ f := Nat.pow_le_pow_right (by decide) h
theorem Bd.up {e f : Nat} {q : Rat} (h : Bd e q) (hf : e ≤ f) : Bd f q := ⟨Nat.lt_of_lt_of_le h.1 (pow_up hf), Nat.lt_of_lt_of_le h.2 (pow_up hf)⟩
theorem mul_lt {a b e f : Nat} (ha : a < 256 ^ e) (hb : b < 256 ^ f) : a * b < 256 ^ (e + f) := by
  rw [Nat.pow_add]
  exact Nat.mul_lt_mul'' ha hb
theorem Bd.mk {e n d : Nat} {b : Bool} (hd : d ≠ 0) (hn : n < 256 ^ e) (h : d < 256 ^ e) : Bd e (mkRat (sg b n) d) := by
  unfold Bd mag
  rw [mk_num b n d hd, mk_den b n d hd, sg_abs]
  exact ⟨Nat.lt_of_le_of_lt (Nat.div_le_self _ _) hn, Nat.lt_of_le_of_lt (Nat.div_le_self _ _) h⟩
theorem Bd.mul {e f : Nat} {p q : Rat} (hp : Bd e p) (hq : Bd f q) : Bd (e + f) (p * q) := by
  rw [mul_law]
  exact Bd.mk (Nat.mul_ne_zero p.den_nz q.den_nz) (mul_lt hp.1 hq.1) (mul_lt hp.2 hq.2)
theorem sg_add_abs (a b : Bool) (m n : Nat) : (sg a m + sg b n).natAbs ≤ m + n := by
  unfold sg
  cases a <;> cases b <;> simp <;> omega
theorem Bd.add {e f : Nat} {p q : Rat} (hp : Bd e p) (hq : Bd f q) : Bd (e + f + 1) (p + q) := by
  have h : ∃ b n, n ≤ mag p * q.den + mag q * p.den ∧ p + q = mkRat (sg b n) (p.den * q.den) := by
    refine ⟨decide ((sg (sgn p) (mag p * q.den) + sg (sgn q) (mag q * p.den)) < 0), (sg (sgn p) (mag p * q.den) + sg (sgn q) (mag q * p.den)).natAbs, sg_add_abs _ _ _ _, ?_⟩
    rw [add_sg]
    congr 1
    generalize sg (sgn p) (mag p * q.den) + sg (sgn q) (mag q * p.den) = z
    unfold sg
    by_cases h : z < 0
    · rw [decide_eq_true h, if_pos rfl]; omega
    · rw [decide_eq_false h, if_neg (by simp)]; omega
  obtain ⟨b, n, hn, he⟩ := h
  rw [he]
  have h1 := mul_lt hp.1 hq.2
  have h2 := mul_lt hq.1 hp.2
  have h3 := mul_lt hp.2 hq.2
  rw [Nat.add_comm f e] at h2
  have h4 : 256 ^ (e + f + 1) = 256 ^ (e + f) * 256 := Nat.pow_succ ..
  refine Bd.mk (Nat.mul_ne_zero p.den_nz q.den_nz) ?_ ?_
  · rw [h4]; omega
  · rw [h4]; omega
theorem Bd.neg {e : Nat} {p : Rat} (hp : Bd e p) : Bd e (-p) := by
  unfold Bd mag at *
  rw [Rat.neg_num, Rat.neg_den, Int.natAbs_neg]
  exact hp
theorem Bd.div {e f : Nat} {p q : Rat} (hp : Bd e p) (hq : Bd f q) (h0 : q ≠ 0) : Bd (e + f) (p / q) := by
  have hm : mag q ≠ 0 := by
    intro h
    exact h0 (Rat.num_eq_zero.1 (by unfold mag at h; omega))
  rw [div_law p q h0]
  exact Bd.mk (Nat.mul_ne_zero p.den_nz hm) (mul_lt hp.1 hq.2) (mul_lt hp.2 hq.1)
theorem tl_loop (a : ByteArray) : ∀ d i r, i + d = a.size → ByteArray.toList.loop a i r = r.reverse ++ a.data.toList.drop i
  | 0, i, r, h => by
    unfold ByteArray.toList.loop
    rw [if_neg (by omega), List.drop_eq_nil_of_le (by rw [Array.length_toList]; show a.size ≤ i; omega), List.append_nil]
  | d + 1, i, r, h => by
    have hi : i < a.size := by omega
    unfold ByteArray.toList.loop
    rw [if_pos hi, tl_loop a d (i + 1) _ (by omega)]
    have hd : i < a.data.toList.length := by rw [Array.length_toList]; exact hi
    have e : a.get! i = a.data.toList[i] := by
      show a.data[i]! = _
      rw [getElem!_pos a.data i hi]
      simp
    rw [e, List.drop_eq_getElem_cons hd]
    simp
theorem toList_data (a : ByteArray) : a.toList = a.data.toList := by
  unfold ByteArray.toList
  rw [tl_loop a a.size 0 [] (by omega)]
  simp
theorem toList_iff {a b : ByteArray} : a.toList = b.toList ↔ a = b := by
  rw [toList_data, toList_data]
  exact ⟨ba_ext, fun h => by rw [h]⟩
theorem toList_nil {a : ByteArray} : a.toList = ([] : List UInt8) ↔ a = ⟨#[]⟩ := by
  have h : (⟨#[]⟩ : ByteArray).toList = [] := toList_data _
  exact ⟨fun h1 => toList_iff.1 (h1.trans h.symm), fun h1 => by rw [h1]; exact h⟩
theorem enc_one : enc 1 = ⟨#[1]⟩ := by
  unfold enc encL
  rw [dif_neg (by decide)]
  unfold encL
  rw [dif_pos (by decide)]
  rfl
theorem toList_one {a : ByteArray} : a.toList = ([1] : List UInt8) ↔ a = enc 1 := by
  have h : (⟨#[1]⟩ : ByteArray).toList = [1] := toList_data _
  rw [enc_one]
  exact ⟨fun h1 => toList_iff.1 (h1.trans h.symm), fun h1 => by rw [h1]; exact h⟩
theorem enc_nil_iff {n : Nat} : (enc n).toList = ([] : List UInt8) ↔ n = 0 := by
  rw [toList_nil, ← enc_zero]
  exact ⟨enc_inj, fun h => by rw [h]⟩
theorem enc_one_iff {n : Nat} : (enc n).toList = ([1] : List UInt8) ↔ n = 1 := by
  rw [toList_one]
  exact ⟨enc_inj, fun h => by rw [h]⟩
def sz (t : T3) : Prop := t.2.1.size ≤ 274877906944 ∧ t.2.2.size ≤ 274877906944
theorem one_lt {e : Nat} (h : 0 < e) : 1 < 256 ^ e := Nat.one_lt_pow (by omega) (by decide)
theorem Bd_val {t : T3} {e : Nat} (hx : t.2.1.size ≤ e) (hy : t.2.2.size ≤ e) : Bd (e + 1) (val3 t) := by
  have h1 : 1 < 256 ^ (e + 1) := one_lt (by omega)
  unfold val3
  split
  · have h2 : sv t.2.1 < 256 ^ (e + 1) := Nat.lt_of_lt_of_le (sv_lt _) (pow_up (by omega))
    have h3 : dN t < 256 ^ (e + 1) := by
      unfold dN
      split
      · exact h1
      · exact Nat.lt_of_lt_of_le (sv_lt _) (pow_up (by omega))
    refine Bd.mk ?_ h2 h3
    unfold dN
    split
    · decide
    · assumption
  · exact ⟨Nat.pow_pos (by decide), h1⟩
theorem sz.bd {t : T3} (h : sz t) : Bd 274877906945 (val3 t) := Bd_val h.1 h.2
theorem sz_tri {e : Nat} {q : Rat} (h : Bd e q) (he : e ≤ 274877906944) : sz (tri q) := by
  have h2 : (dB q.den).size ≤ e := by
    unfold dB
    split
    · exact Nat.zero_le _
    · exact enc_size _ _ h.2
  exact ⟨Nat.le_trans (enc_size _ _ h.1) he, Nat.le_trans h2 he⟩
abbrev St := List (Int × Rat)
def Asc : St → Prop
  | [] => True
  | [_] => True
  | (F, _) :: (G, s) :: t => F < G ∧ Asc ((G, s) :: t)
def rateAt : St → Int → Rat
  | [], _ => 0
  | [(F, r)], d => if F ≤ d then r else 0
  | (F, r) :: (G, s) :: t, d => if F ≤ d then (if G ≤ d then rateAt ((G, s) :: t) d else r) else 0
def posI (n : Int) : Int := if 0 < n then n else 0
def segSum : St → Int → Int → Rat
  | [], _, _ => 0
  | [(F, r)], a, b => r * (posI (b - max a F) : Int)
  | (F, r) :: (G, s) :: t, a, b => r * (posI (min b G - max a F) : Int) + segSum ((G, s) :: t) a b
def dayS (l : St) (a : Int) : Nat → Rat
  | 0 => 0
  | n + 1 => dayS l a n + rateAt l (a + n)
theorem posI_of_le {n : Int} (h : n ≤ 0) : posI n = 0 := if_neg (by omega)
theorem posI_pos {n : Int} (h : 0 ≤ n) : posI n = n := by unfold posI; split <;> omega
theorem rateAt_cons {F : Int} {r : Rat} {G : Int} {s : Rat} {t : St} {d : Int} : rateAt ((F, r) :: (G, s) :: t) d = if F ≤ d then (if G ≤ d then rateAt ((G, s) :: t) d else r) else 0 := rfl
theorem segSum_cons {F : Int} {r : Rat} {G : Int} {s : Rat} {t : St} {a b : Int} : segSum ((F, r) :: (G, s) :: t) a b = r * (posI (min b G - max a F) : Int) + segSum ((G, s) :: t) a b := rfl
theorem q_one (r : Rat) (n : Int) : r * ((n + 1 : Int) : Rat) = r * (n : Rat) + r := by
  rw [Rat.intCast_add]
  grind
theorem segSum_step : ∀ (l : St) (a b : Int), Asc l → a ≤ b → segSum l a (b + 1) = segSum l a b + rateAt l b
  | [], _, _, _, _ => (Rat.add_zero _).symm
  | [(F, r)], a, b, _, h => by
    show r * (posI (b + 1 - max a F) : Int) = r * (posI (b - max a F) : Int) + (if F ≤ b then r else 0)
    by_cases hF : F ≤ b
    · rw [if_pos hF, posI_pos (by omega), posI_pos (by omega), show b + 1 - max a F = (b - max a F) + 1 by omega, q_one]
    · rw [if_neg hF, posI_of_le (by omega), posI_of_le (by omega)]
      exact (Rat.add_zero _).symm
  | (F, r) :: (G, s) :: t, a, b, hs, h => by
    have h2 : F < G := hs.1
    rw [segSum_cons, segSum_cons, rateAt_cons, segSum_step ((G, s) :: t) a b hs.2 h]
    by_cases hG : G ≤ b
    · rw [if_pos (show F ≤ b by omega), if_pos hG, show min (b + 1) G = min b G by omega]
      grind
    · have hz : rateAt ((G, s) :: t) b = 0 := by
        cases t with
        | nil => exact if_neg hG
        | cons y t' => obtain ⟨H, u⟩ := y; exact if_neg hG
      rw [hz, if_neg hG]
      by_cases hF : F ≤ b
      · rw [if_pos hF, posI_pos (by omega), posI_pos (by omega), show min (b + 1) G - max a F = (min b G - max a F) + 1 by omega, q_one]
        grind
      · rw [if_neg hF, posI_of_le (by omega), posI_of_le (by omega)]
        grind
theorem segSum_day (l : St) (a : Int) (hs : Asc l) : ∀ n : Nat, segSum l a (a + n) = dayS l a n
  | 0 => by
    show segSum l a (a + (0 : Nat)) = 0
    rw [show a + ((0 : Nat) : Int) = a by omega]
    clear hs
    induction l with
    | nil => rfl
    | cons x t ih =>
      obtain ⟨F, r⟩ := x
      cases t with
      | nil =>
        show r * (posI (a - max a F) : Int) = 0
        rw [posI_of_le (by omega)]
        exact Rat.mul_zero r
      | cons y t' =>
        obtain ⟨G, s⟩ := y
        rw [segSum_cons, ih, posI_of_le (by omega)]
        exact (Rat.add_zero _).trans (Rat.mul_zero r)
  | n + 1 => by
    rw [show a + ((n + 1 : Nat) : Int) = (a + n) + 1 by omega, segSum_step l a (a + n) hs (by omega), segSum_day l a hs n]
    rfl
theorem dayS_add (l : St) (a : Int) (m : Nat) : ∀ n : Nat, dayS l a (m + n) = dayS l a m + dayS l (a + m) n
  | 0 => (Rat.add_zero _).symm
  | n + 1 => by
    show dayS l a (m + n) + rateAt l (a + ((m + n : Nat) : Int)) = _ + (dayS l (a + m) n + rateAt l (a + m + n))
    rw [dayS_add l a m n, show a + ((m + n : Nat) : Int) = a + m + n by omega]
    grind
theorem rateAt_stays : ∀ (l : St) (a b : Int), Asc l → a ≤ b → (∀ p ∈ l, ¬ (a < p.1 ∧ p.1 ≤ b)) → rateAt l b = rateAt l a
  | [], _, _, _, _, _ => rfl
  | [(F, r)], a, b, _, h, hp => by
    have := hp (F, r) (by simp)
    show (if F ≤ b then r else 0) = (if F ≤ a then r else 0)
    by_cases hF : F ≤ a
    · rw [if_pos hF, if_pos (by omega)]
    · rw [if_neg hF, if_neg (by simp at this; omega)]
  | (F, r) :: (G, s) :: t, a, b, hs, h, hp => by
    have h1 := hp (F, r) (by simp)
    have h2 := hp (G, s) (by simp)
    simp only at h1 h2
    rw [rateAt_cons, rateAt_cons, rateAt_stays ((G, s) :: t) a b hs.2 h (fun p hm => hp p (List.mem_cons_of_mem _ hm))]
    by_cases hF : F ≤ a
    · rw [if_pos hF, if_pos (by omega)]
      by_cases hG : G ≤ a
      · rw [if_pos hG, if_pos (by omega)]
      · rw [if_neg hG, if_neg (by omega)]
    · rw [if_neg hF, if_neg (by omega)]
theorem dayS_flat (l : St) (a : Int) (r : Rat) : ∀ n : Nat, (∀ i : Nat, i < n → rateAt l (a + i) = r) → dayS l a n = r * ((n : Int) : Rat)
  | 0, _ => (Rat.mul_zero r).symm
  | n + 1, h => by
    show dayS l a n + rateAt l (a + n) = _
    rw [dayS_flat l a r n (fun i hi => h i (by omega)), h n (by omega), show ((n + 1 : Nat) : Int) = (n : Int) + 1 by omega, q_one]
end Go.Proofs.YtggfilmdfpmbmaaGreatDoor.V
end
section
namespace Go.Proofs.YtggfilmdfpmbmaaGreatDoor.V
open Go.RowKit Go.Proofs.YtggfilmdfpmbmaaGreatDoorW.PrintWords Go.Proofs.YtggfilmdfpmbmaaGreatDoor.QN
set_option linter.unusedVariables false
theorem encz {n e : Nat} (h : n < 256 ^ e) (he : e ≤ 1099511627776) : (enc n).size ≤ 1099511627776 := Nat.le_trans (enc_size n e h) he
theorem mulE {a b e f : Nat} (ha : a < 256 ^ e) (hb : b < 256 ^ f) (he : e ≤ 1099511627776) (hf : f ≤ 1099511627776) : Ev (fun k => N1Multiply.f k (enc a) (enc b)) (enc (a * b)) := by
  have h := Multiply_ev (enc a) (enc b) (encz ha he) (encz hb hf)
  rw [sv_enc, sv_enc] at h
  exact h
theorem addE {a b e f : Nat} (ha : a < 256 ^ e) (hb : b < 256 ^ f) (he : e ≤ 1099511627776) (hf : f ≤ 1099511627776) : Ev (fun k => N1Add.f k (enc a) (enc b)) (enc (a + b)) := by
  have h := Add_ev (enc a) (enc b) (encz ha he) (encz hb hf)
  rw [sv_enc, sv_enc] at h
  exact h
theorem subE {a b e f : Nat} (ha : a < 256 ^ e) (hb : b < 256 ^ f) (he : e ≤ 1099511627776) (hf : f ≤ 1099511627776) : Ev (fun k => N1Subtract.f k (enc a) (enc b)) (if b ≤ a then (enc (a - b), true) else (⟨#[]⟩, false)) := by
  have h := Subtract_ev (enc a) (enc b) (encz ha he) (encz hb hf)
  rw [sv_enc, sv_enc] at h
  exact h
theorem divE {a b e f : Nat} (ha : a < 256 ^ e) (hb : b < 256 ^ f) (he : e ≤ 1099511627776) (hf : f ≤ 1099511627776) (h0 : b ≠ 0) : Ev (fun k => N1Divide.f k (enc a) (enc b)) (enc (a / b), enc (a % b), true) := by
  have h := Divide_ev (enc a) (enc b) (encz ha he) (encz hb hf)
  rw [sv_enc, sv_enc, if_neg h0] at h
  exact h
theorem gcdE {a b e f : Nat} (ha : a < 256 ^ e) (hb : b < 256 ^ f) (he : e ≤ 1099511627776) (hf : f ≤ 1099511627776) : Ev (fun k => N1GCD.f k (enc a) (enc b)) (enc (Nat.gcd a b)) := by
  have h := GCD_ev (enc a) (enc b) (encz ha he) (encz hb hf)
  rw [sv_enc, sv_enc] at h
  exact h
theorem normE (a : Nat) : Ev (fun k => N1Normalize.f k (enc a)) (enc a) := by
  have h := Normalize_ev (enc a)
  rw [sv_enc] at h
  exact h
theorem okT_mk (b : Bool) (n m : Nat) : okT (b, enc n, enc m) ↔ (if n = 0 then b = false ∧ m = 0 else m = 0 ∨ (m ≠ 1 ∧ Nat.gcd n m = 1)) := by
  unfold okT
  simp only [sv_enc]
  exact ⟨fun h => h.2.2, fun h => ⟨trivial, trivial, h⟩⟩
theorem dec_true {p : Prop} [Decidable p] (h : p) : true = decide p := (decide_eq_true h).symm
theorem dec_false {p : Prop} [Decidable p] (h : ¬ p) : false = decide p := (decide_eq_false h).symm
theorem Ev.eq {α : Type} {g : Nat → Option α} {r s : α} (h : Ev g r) (e : r = s) : Ev g s := e ▸ h
theorem Valid_j0 (b : Bool) (n m : Nat) (hn : (enc n).size ≤ 1099511627776) (hm : (enc m).size ≤ 1099511627776) : Ev (fun k => Q1Valid.j0 k false b (enc n) (enc m)) (decide (okT (b, enc n, enc m))) := by
  by_cases h0 : n = 0
  · have e0 : (enc n).toList = ([] : List UInt8) := enc_nil_iff.2 h0
    cases b with
    | true =>
      refine Ev.succ (h := fun k => some false) (fun k => ?_) ((Ev.of fun _ => rfl).eq (dec_false ?_))
      · simp only [Q1Valid.j0]
        rw [if_neg (by decide), if_pos e0]
        rfl
      · rw [okT_mk, if_pos h0]
        exact fun h => absurd h.1 (by decide)
    | false =>
      refine Ev.succ (h := fun k => some ((enc m).toList == ([] : List UInt8))) (fun k => ?_) ((Ev.of fun _ => rfl).eq ?_)
      · simp only [Q1Valid.j0]
        rw [if_neg (by decide), if_pos e0]
        rfl
      · by_cases hm0 : m = 0
        · rw [beq_iff_eq.2 (enc_nil_iff.2 hm0)]
          exact dec_true ((okT_mk _ _ _).2 (by rw [if_pos h0]; exact ⟨rfl, hm0⟩))
        · rw [beq_eq_false_iff_ne.2 (fun h => hm0 (enc_nil_iff.1 h))]
          exact dec_false (fun h => by rw [okT_mk, if_pos h0] at h; exact hm0 h.2)
  · have e0 : ¬ (enc n).toList = ([] : List UInt8) := fun h => h0 (enc_nil_iff.1 h)
    by_cases hm0 : m = 0
    · refine Ev.succ (h := fun k => some true) (fun k => ?_) ((Ev.of fun _ => rfl).eq (dec_true ?_))
      · simp only [Q1Valid.j0]
        rw [if_neg (by decide), if_neg e0, if_pos (enc_nil_iff.2 hm0)]
      · rw [okT_mk, if_neg h0]
        exact Or.inl hm0
    · have e1 : ¬ (enc m).toList = ([] : List UInt8) := fun h => hm0 (enc_nil_iff.1 h)
      by_cases hm1 : m = 1
      · refine Ev.succ (h := fun k => some false) (fun k => ?_) ((Ev.of fun _ => rfl).eq (dec_false ?_))
        · simp only [Q1Valid.j0]
          rw [if_neg (by decide), if_neg e0, if_neg e1, if_pos (enc_one_iff.2 hm1)]
        · rw [okT_mk, if_neg h0]
          rintro (h | h)
          · exact hm0 h
          · exact h.1 hm1
      · have hg := GCD_ev (enc n) (enc m) hn hm
        rw [sv_enc, sv_enc] at hg
        refine Ev.succ (h := fun k => (N1GCD.f k (enc n) (enc m)).bind fun t => some (t.toList == ([1] : List UInt8))) (fun k => ?_) ((Ev.bind (h := fun _ t => some (t.toList == ([1] : List UInt8))) hg (Ev.of fun _ => rfl)).eq ?_)
        · simp only [Q1Valid.j0]
          rw [if_neg (by decide), if_neg e0, if_neg e1, if_neg (fun h => hm1 (enc_one_iff.1 h))]
        · by_cases h1 : Nat.gcd n m = 1
          · rw [beq_iff_eq.2 (enc_one_iff.2 h1)]
            exact dec_true ((okT_mk _ _ _).2 (by rw [if_neg h0]; exact Or.inr ⟨hm1, h1⟩))
          · rw [beq_eq_false_iff_ne.2 (fun h => h1 (enc_one_iff.1 h))]
            exact dec_false (fun h => by
              rw [okT_mk, if_neg h0] at h
              rcases h with h | h
              · exact hm0 h
              · exact h1 h.2)
theorem Valid_bad (b : Bool) (x y : ByteArray) : Ev (fun k => Q1Valid.j0 k true b x y) false :=
  Ev.succ (h := fun k => some false) (fun k => by simp only [Q1Valid.j0]; exact if_pos trivial) (Ev.of fun _ => rfl)
theorem Valid_ev (b : Bool) (x y : ByteArray) (hx : x.size ≤ 1099511627776) (hy : y.size ≤ 1099511627776) : Ev (fun k => Q1Valid.f k b x y) (decide (okT (b, x, y))) := by
  unfold Q1Valid.f
  refine Ev.bind (Normalize_ev x) ?_
  by_cases h1 : enc (sv x) = x
  · simp only [if_pos (toList_iff.2 h1)]
    refine Ev.bind (Normalize_ev y) ?_
    by_cases h2 : enc (sv y) = y
    · have e : ((enc (sv y)).toList != y.toList) = false := by rw [h2]; simp
      rw [e]
      have h := Valid_j0 b (sv x) (sv y) (by rw [h1]; exact hx) (by rw [h2]; exact hy)
      rw [h1, h2] at h
      exact h
    · have e : ((enc (sv y)).toList != y.toList) = true := bne_iff_ne.2 (fun h => h2 (toList_iff.1 h))
      rw [e]
      exact (Valid_bad b x y).eq (dec_false (fun h => h2 h.2.1))
  · simp only [if_neg (fun h => h1 (toList_iff.1 h))]
    exact (Valid_bad b x y).eq (dec_false (fun h => h1 h.1))
theorem tri_bad {t : T3} (h : ¬ okT t) : tri (val3 t) = (false, ⟨#[]⟩, ⟨#[]⟩) := by rw [val_bad h, tri_zero]
theorem clean_ev (t : T3) (h : sz t) : Ev (fun k => Q1clean.f k t.1 t.2.1 t.2.2) (tri (val3 t)) := by
  unfold Q1clean.f
  refine Ev.bind (Valid_ev t.1 t.2.1 t.2.2 (Nat.le_trans h.1 (by decide)) (Nat.le_trans h.2 (by decide))) ?_
  by_cases ho : okT t
  · rw [tri_val ho]
    exact Ev.of fun _ => if_pos (decide_eq_true ho)
  · rw [tri_bad ho]
    exact Ev.of fun _ => if_neg (fun h => ho (of_decide_eq_true h))
theorem den_ev (q : Rat) : Q1den.f (tri q).1 (tri q).2.1 (tri q).2.2 = some (enc q.den) := by
  unfold Q1den.f tri dB
  by_cases h : q.den = 1
  · simp only [if_pos h]
    rw [if_pos (toList_nil.2 rfl), h, enc_one]
  · simp only [if_neg h]
    rw [if_neg (fun e => absurd (enc_nil_iff.1 e) q.den_nz)]
theorem dB_eq (d : Nat) (h : d ≠ 1) : dB d = enc d := if_neg h
theorem reduced_ev (b : Bool) (x y : ByteArray) (hx : x.size ≤ 1099511627776) (hy : y.size ≤ 1099511627776) (h0 : sv y ≠ 0) : Ev (fun k => Q1reduced.f k b x y) (tri (mkRat (sg b (sv x)) (sv y))) := by
  unfold Q1reduced.f
  refine Ev.bind (Normalize_ev x) (Ev.bind (Normalize_ev y) ?_)
  have hn : sv x < 256 ^ x.size := sv_lt x
  have hd : sv y < 256 ^ y.size := sv_lt y
  generalize hN : sv x = n at hn ⊢
  generalize hD : sv y = d at hd h0 ⊢
  by_cases c1 : n = 0
  · simp only [if_pos (enc_nil_iff.2 c1)]
    rw [c1, tri_mk0]
    exact Ev.of fun _ => rfl
  · simp only [if_neg (fun h => c1 (enc_nil_iff.1 h))]
    rw [tri_mk b n d c1 h0]
    by_cases c2 : d = 1
    · simp only [if_pos (enc_one_iff.2 c2)]
      rw [c2, Nat.gcd_one_right, Nat.div_one, Nat.div_one]
      exact Ev.of fun _ => rfl
    · simp only [if_neg (fun h => c2 (enc_one_iff.1 h))]
      refine Ev.bind (gcdE hn hd hx hy) ?_
      have gd : n.gcd d ∣ d := Nat.gcd_dvd_right n d
      have gn : n.gcd d ≠ 0 := fun h => h0 (Nat.eq_zero_of_gcd_eq_zero_right h)
      have gl : n.gcd d < 256 ^ y.size := Nat.lt_of_le_of_lt (Nat.le_of_dvd (by omega) gd) hd
      by_cases c3 : n.gcd d = 1
      · simp only [if_pos (enc_one_iff.2 c3)]
        rw [c3, Nat.div_one, Nat.div_one, dB_eq d c2]
        exact Ev.of fun _ => rfl
      · simp only [if_neg (fun h => c3 (enc_one_iff.1 h))]
        refine Ev.bind (divE hn gl hx hy gn) (Ev.bind (divE hd gl hy hy gn) ?_)
        by_cases c4 : d / n.gcd d = 1
        · simp only [if_pos (enc_one_iff.2 c4)]
          rw [c4]
          exact Ev.of fun _ => rfl
        · simp only [if_neg (fun h => c4 (enc_one_iff.1 h))]
          rw [dB_eq _ c4]
          exact Ev.of fun _ => rfl
theorem reducedE (b : Bool) {n d e f : Nat} (hn : n < 256 ^ e) (hd : d < 256 ^ f) (he : e ≤ 1099511627776) (hf : f ≤ 1099511627776) (h0 : d ≠ 0) : Ev (fun k => Q1reduced.f k b (enc n) (enc d)) (tri (mkRat (sg b n) d)) := by
  have h := reduced_ev b (enc n) (enc d) (encz hn he) (encz hd hf) (by rw [sv_enc]; exact h0)
  rw [sv_enc, sv_enc] at h
  exact h
theorem Ev.pure {α β : Type} {f : Nat → α → Option β} {o : Option α} {a : α} {r : β} (e : o = some a) (h : Ev (fun k => f k a) r) : Ev (fun k => o.bind (f k)) r := by
  subst e
  exact h
theorem qmul_pos (p q : Rat) : p.den * q.den ≠ 0 := Nat.mul_ne_zero p.den_nz q.den_nz
theorem Mul_ev (s t : T3) (hs : sz s) (ht : sz t) : Ev (fun k => Q1Multiply.f k s.1 s.2.1 s.2.2 t.1 t.2.1 t.2.2) (tri (val3 s * val3 t)) := by
  unfold Q1Multiply.f
  refine Ev.bind (clean_ev s hs) (Ev.bind (clean_ev t ht) ?_)
  have bs := hs.bd
  have bt := ht.bd
  generalize val3 s = p at bs ⊢
  generalize val3 t = q at bt ⊢
  rw [mul_law]
  refine Ev.bind (mulE bs.1 bt.1 (by decide) (by decide)) (Ev.pure (den_ev p) (Ev.pure (den_ev q) (Ev.bind (mulE bs.2 bt.2 (by decide) (by decide)) (Ev.bind (reducedE _ (mul_lt bs.1 bt.1) (mul_lt bs.2 bt.2) (by decide) (by decide) (qmul_pos p q)) (Ev.of fun _ => rfl)))))
theorem Int_mag (n : Int) (h0 : -9223372036854775808 ≤ n) (h1 : n ≤ 9223372036854775807) : Ev (fun k => Q1magnitude.f k n) (enc n.natAbs) := by
  have hu := FromUint_ev n.natAbs (by omega)
  unfold Q1magnitude.f
  by_cases c : n < 0
  · simp only [if_pos c]
    have e : IntKind.u64.wrap (-(IntKind.u64.wrap n)) = (n.natAbs : Int) := by
      show (-(n % 18446744073709551616)) % 18446744073709551616 = _
      omega
    rw [e]
    exact Ev.bind hu (Ev.of fun _ => rfl)
  · simp only [if_neg c]
    have e : IntKind.u64.wrap n = (n.natAbs : Int) := by
      show n % 18446744073709551616 = _
      omega
    rw [e]
    exact Ev.bind hu (Ev.of fun _ => rfl)
theorem int_sg (n : Int) : mkRat (sg (decide (n < 0)) n.natAbs) 1 = (n : Rat) := by
  have : sg (decide (n < 0)) n.natAbs = n := by
    unfold sg
    by_cases h : n < 0
    · rw [decide_eq_true h, if_pos rfl]; omega
    · rw [decide_eq_false h, if_neg (by decide)]; omega
  rw [this, Rat.mkRat_one]
theorem natAbs_lt (n : Int) (h0 : -9223372036854775808 ≤ n) (h1 : n ≤ 9223372036854775807) : n.natAbs < 256 ^ 8 := by
  have : (256 : Nat) ^ 8 = 18446744073709551616 := by decide
  omega
theorem Int_ev (n : Int) (h0 : -9223372036854775808 ≤ n) (h1 : n ≤ 9223372036854775807) : Ev (fun k => Q1Int.f k n) (tri (n : Rat)) := by
  unfold Q1Int.f
  have h := reducedE (decide (n < 0)) (natAbs_lt n h0 h1) (one_lt (show 0 < 8 by decide)) (by decide) (by decide) (by decide)
  rw [enc_one, int_sg] at h
  exact Ev.bind (Int_mag n h0 h1) (Ev.bind h (Ev.of fun _ => rfl))
theorem add_lt {a b e : Nat} (ha : a < 256 ^ e) (hb : b < 256 ^ e) : a + b < 256 ^ (e + 1) := by
  have h4 : 256 ^ (e + 1) = 256 ^ e * 256 := Nat.pow_succ ..
  omega
theorem qadd_j0 (p q : Rat) (x y d e : Nat) (hx : x < 256 ^ e) (hy : y < 256 ^ e) (hd : d < 256 ^ e) (he : e < 1099511627776) (h0 : d ≠ 0) :
    Ev (fun k => Q1add.j0 k (enc x) (enc y) (enc d) (tri p).1 (tri p).2.1 (tri p).2.2 (tri q).1 (tri q).2.1 (tri q).2.2) (tri (mkRat (sg (sgn p) x + sg (sgn q) y) d)) := by
  have he' : e ≤ 1099511627776 := by omega
  have hs : (tri p).1 = sgn p := rfl
  have ht : (tri q).1 = sgn q := rfl
  rw [hs, ht]
  generalize sgn p = a
  generalize sgn q = b
  by_cases hab : a = b
  · subst hab
    rw [sg_add]
    refine Ev.succ (h := fun k => (N1Add.f k (enc x) (enc y)).bind fun t530 => ((Q1reduced.f k a t530 (enc d)).bind fun bt531 => (some (bt531.1, bt531.2.1, bt531.2.2)))) (fun k => ?_) ?_
    · simp only [Q1add.j0]
      exact if_pos (by simp)
    · exact Ev.bind (addE hx hy he' he') (Ev.bind (reducedE a (add_lt hx hy) hd (by omega) he' h0) (Ev.of fun _ => rfl))
  · have hb : (a == b) = false := beq_eq_false_iff_ne.2 hab
    refine Ev.succ (h := fun k => (N1Subtract.f k (enc x) (enc y)).bind fun bt534 => (if bt534.2 = true then ((Q1reduced.f k a bt534.1 (enc d)).bind fun bt536 => (some (bt536.1, bt536.2.1, bt536.2.2))) else ((N1Subtract.f k (enc y) (enc x)).bind fun bt539 => ((Q1reduced.f k b bt539.1 (enc d)).bind fun bt541 => (some (bt541.1, bt541.2.1, bt541.2.2)))))) (fun k => ?_) ?_
    · simp only [Q1add.j0]
      rw [hb]
      exact if_neg (by decide)
    · refine Ev.bind (subE hx hy he' he') ?_
      by_cases hle : y ≤ x
      · rw [if_pos hle, sg_sub a b x y hab hle]
        simp only [if_true]
        exact Ev.bind (reducedE a (Nat.lt_of_le_of_lt (Nat.sub_le x y) hx) hd he' he' h0) (Ev.of fun _ => rfl)
      · have h2 := subE hy hx he' he'
        rw [if_pos (by omega)] at h2
        rw [if_neg hle, sg_sub' a b x y hab (by omega)]
        refine Ev.congr (h := fun k => (N1Subtract.f k (enc y) (enc x)).bind fun bt539 => ((Q1reduced.f k b bt539.1 (enc d)).bind fun bt541 => (some (bt541.1, bt541.2.1, bt541.2.2)))) (fun k => if_neg (by decide)) ?_
        exact Ev.bind h2 (Ev.bind (reducedE b (Nat.lt_of_le_of_lt (Nat.sub_le y x) hy) hd he' he' h0) (Ev.of fun _ => rfl))
theorem dB_iff {a b : Nat} : (dB a).toList = (dB b).toList ↔ a = b ∨ (a = 1 ∧ b = 0) ∨ (a = 0 ∧ b = 1) := by
  rw [toList_iff]
  unfold dB
  constructor
  · intro h
    by_cases ha : a = 1
    · by_cases hb : b = 1
      · left; omega
      · rw [if_pos ha, if_neg hb, ← enc_zero] at h
        have := enc_inj h
        right; left; omega
    · by_cases hb : b = 1
      · rw [if_neg ha, if_pos hb, ← enc_zero] at h
        have := enc_inj h
        right; right; omega
      · rw [if_neg ha, if_neg hb] at h
        left; exact enc_inj h
  · rintro (h | ⟨h, h'⟩ | ⟨h, h'⟩)
    · rw [h]
    · rw [if_pos h, if_neg (by omega), h', enc_zero]
    · rw [if_neg (by omega), if_pos h', h, enc_zero]
theorem add_ev (p q : Rat) {e : Nat} (hp : Bd e p) (hq : Bd e q) (he : e ≤ 274877906945) : Ev (fun k => Q1add.f k (tri p).1 (tri p).2.1 (tri p).2.2 (tri q).1 (tri q).2.1 (tri q).2.2) (tri (p + q)) := by
  unfold Q1add.f
  by_cases hd : p.den = q.den
  · have e1 : (tri p).2.2.toList = (tri q).2.2.toList := by show (dB p.den).toList = (dB q.den).toList; rw [hd]
    simp only [if_pos e1]
    rw [add_same p q hd]
    exact Ev.pure (den_ev p) (qadd_j0 p q (mag p) (mag q) p.den e hp.1 hq.1 hp.2 (by omega) p.den_nz)
  · have e1 : ¬ (tri p).2.2.toList = (tri q).2.2.toList := fun h => by
      have := dB_iff.1 h
      have h1 := p.den_nz
      have h2 := q.den_nz
      omega
    simp only [if_neg e1]
    rw [add_sg]
    have he1 : e ≤ 1099511627776 := by omega
    have hh := mul_lt hq.1 hp.2
    exact Ev.pure (den_ev q) (Ev.bind (mulE hp.1 hq.2 he1 he1) (Ev.pure (den_ev p) (Ev.bind (mulE hq.1 hp.2 he1 he1) (Ev.pure (den_ev p) (Ev.pure (den_ev q) (Ev.bind (mulE hp.2 hq.2 he1 he1)
      (qadd_j0 p q _ _ _ (e + e) (mul_lt hp.1 hq.2) hh (mul_lt hp.2 hq.2) (by omega) (qmul_pos p q))))))))
theorem Add_ev' (s t : T3) (hs : sz s) (ht : sz t) : Ev (fun k => Q1Add.f k s.1 s.2.1 s.2.2 t.1 t.2.1 t.2.2) (tri (val3 s + val3 t)) := by
  unfold Q1Add.f
  exact Ev.bind (clean_ev s hs) (Ev.bind (clean_ev t ht) (Ev.bind (add_ev _ _ hs.bd ht.bd (by decide)) (Ev.of fun _ => rfl)))
theorem negate_ev (q : Rat) : Q1negate.f (tri q).1 (tri q).2.1 (tri q).2.2 = some (tri (-q)) := by
  rw [neg_sgn]
  unfold Q1negate.f
  cases h : (tri q).1
  · rw [if_neg (by decide)]
    by_cases h1 : (tri q).2.1 = ⟨#[]⟩
    · rw [decide_eq_false (fun h => h h1), h1]
      have : ((⟨#[]⟩ : ByteArray).toList != ([] : List UInt8)) = false := by rw [toList_nil.2 rfl]; rfl
      rw [this]
      rfl
    · rw [decide_eq_true h1, bne_iff_ne.2 (fun h => h1 (toList_nil.1 h))]
      rfl
  · rw [if_pos rfl]
    rfl
theorem Sub_ev (s t : T3) (hs : sz s) (ht : sz t) : Ev (fun k => Q1Subtract.f k s.1 s.2.1 s.2.2 t.1 t.2.1 t.2.2) (tri (val3 s - val3 t)) := by
  unfold Q1Subtract.f
  rw [Rat.sub_eq_add_neg]
  exact Ev.bind (clean_ev s hs) (Ev.bind (clean_ev t ht) (Ev.pure (negate_ev _) (Ev.bind (add_ev _ _ hs.bd ht.bd.neg (by decide)) (Ev.of fun _ => rfl))))
def sign (q : Rat) : Int := if q.num = 0 then 0 else if q.num < 0 then -1 else 1
theorem signOf_ev (q : Rat) : Q1signOf.f (tri q).1 (tri q).2.1 (tri q).2.2 = some (sign q) := by
  unfold Q1signOf.f sign
  have h1 : (tri q).2.1.toList = ([] : List UInt8) ↔ q.num = 0 := by
    show (enc q.num.natAbs).toList = [] ↔ _
    rw [enc_nil_iff]
    omega
  by_cases h : q.num = 0
  · rw [if_pos (h1.2 h), if_pos h]
  · rw [if_neg (fun e => h (h1.1 e)), if_neg h]
    by_cases h2 : q.num < 0
    · rw [if_pos h2, if_pos (show (tri q).1 = true from decide_eq_true h2)]
    · rw [if_neg h2, if_neg (show ¬ (tri q).1 = true from fun e => h2 (of_decide_eq_true e))]
theorem Sign_ev (s : T3) (hs : sz s) : Ev (fun k => Q1Sign.f k s.1 s.2.1 s.2.2) (sign (val3 s)) := by
  unfold Q1Sign.f
  exact Ev.bind (clean_ev s hs) (Ev.pure (signOf_ev _) (Ev.of fun _ => rfl))
theorem Make_ev (b : Bool) {n d e f : Nat} (hn : n < 256 ^ e) (hd : d < 256 ^ f) (he : e ≤ 1099511627776) (hf : f ≤ 1099511627776) : Ev (fun k => Q1Make.f k b (enc n) (enc d)) (if d = 0 then (false, ⟨#[]⟩, ⟨#[]⟩, false) else ((tri (mkRat (sg b n) d)).1, (tri (mkRat (sg b n) d)).2.1, (tri (mkRat (sg b n) d)).2.2, true)) := by
  unfold Q1Make.f
  refine Ev.bind (normE d) ?_
  by_cases h : d = 0
  · simp only [if_pos h, if_pos (enc_nil_iff.2 h)]
    exact Ev.of fun _ => rfl
  · simp only [if_neg h, if_neg (fun e => h (enc_nil_iff.1 e))]
    exact Ev.bind (reducedE b hn hd he hf h) (Ev.of fun _ => rfl)
theorem mag_zero {q : Rat} : mag q = 0 ↔ q = 0 := by
  rw [← Rat.num_eq_zero]
  unfold mag
  omega
theorem Div_ev (s t : T3) (hs : sz s) (ht : sz t) : Ev (fun k => Q1Divide.f k s.1 s.2.1 s.2.2 t.1 t.2.1 t.2.2) (if val3 t = 0 then (false, ⟨#[]⟩, ⟨#[]⟩, false) else ((tri (val3 s / val3 t)).1, (tri (val3 s / val3 t)).2.1, (tri (val3 s / val3 t)).2.2, true)) := by
  unfold Q1Divide.f
  refine Ev.bind (clean_ev s hs) (Ev.bind (clean_ev t ht) ?_)
  have bs := hs.bd
  have bt := ht.bd
  generalize val3 s = p at bs ⊢
  generalize val3 t = q at bt ⊢
  have h := Make_ev (sgn p != sgn q) (mul_lt bs.1 bt.2) (mul_lt bs.2 bt.1) (by decide) (by decide)
  refine Ev.pure (den_ev q) (Ev.bind (mulE bs.1 bt.2 (by decide) (by decide)) (Ev.pure (den_ev p) (Ev.bind (mulE bs.2 bt.1 (by decide) (by decide)) (Ev.bind h ?_))))
  by_cases h0 : q = 0
  · rw [if_pos h0, if_pos (by rw [mag_zero.2 h0, Nat.mul_zero])]
    exact Ev.of fun _ => rfl
  · rw [if_neg h0, if_neg (Nat.mul_ne_zero p.den_nz (fun e => h0 (mag_zero.1 e))), ← div_law p q h0]
    exact Ev.of fun _ => rfl
theorem lme {n e : Nat} (h : n < 256 ^ e) : (lm n).length ≤ e := lm_len n e (Nat.lt_of_lt_of_le h (Nat.pow_le_pow_left (by decide) e))
theorem limbsE {n e : Nat} (h : n < 256 ^ e) (he : e ≤ 1099511627776) : Ev (fun k => R1limbs.f k (enc n)) (lm n) := by
  have h1 := rlimbs_ev (enc n) (encz h he)
  rw [sv_enc] at h1
  exact h1
theorem timesE {a b e f : Nat} (ha : a < 256 ^ e) (hb : b < 256 ^ f) (he : e ≤ 274877906944) (hf : f ≤ 274877906944) : Ev (fun k => R1times.f k (lm a) (lm b)) (lm (a * b)) :=
  times_ev a b (Nat.le_trans (lme ha) he) (Nat.le_trans (lme hb) hf)
theorem plusE {a b e f : Nat} (ha : a < 256 ^ e) (hb : b < 256 ^ f) (he : e ≤ 274877906944) (hf : f ≤ 274877906944) : Ev (fun k => R1plus.f k (lm a) (lm b)) (lm (a + b)) :=
  plus_ev a b (Nat.le_trans (lme ha) he) (Nat.le_trans (lme hb) hf)
theorem minusE {a b e : Nat} (hab : b ≤ a) (ha : a < 256 ^ e) (he : e ≤ 274877906944) : Ev (fun k => R1minus.f k (lm a) (lm b)) (lm (a - b)) :=
  minus_ev a b hab (Nat.le_trans (Nat.le_trans (lme ha) he) (by decide))
theorem textE {n e : Nat} (h : n < 256 ^ e) (he : e ≤ 1099511627776) : Ev (fun k => R1text.f k (lm n)) (enc n) := rtext_lm (Nat.le_trans (lme h) he)
theorem rValid_j0 (b : Bool) (n m : Nat) (hn : (enc n).size ≤ 1099511627776) (hm : (enc m).size ≤ 1099511627776) (hm1 : m ≠ 1) : Ev (fun k => R1Valid.j0 k false b (enc n) (enc m)) (decide (okT (b, enc n, enc m))) := by
  by_cases h0 : n = 0
  · have e0 : (enc n).toList = ([] : List UInt8) := enc_nil_iff.2 h0
    cases b with
    | true =>
      refine Ev.succ (h := fun k => some false) (fun k => ?_) ((Ev.of fun _ => rfl).eq (dec_false ?_))
      · simp only [R1Valid.j0]
        rw [if_neg (by decide), if_pos e0]
        rfl
      · rw [okT_mk, if_pos h0]
        exact fun h => absurd h.1 (by decide)
    | false =>
      refine Ev.succ (h := fun k => some ((enc m).toList == ([] : List UInt8))) (fun k => ?_) ((Ev.of fun _ => rfl).eq ?_)
      · simp only [R1Valid.j0]
        rw [if_neg (by decide), if_pos e0]
        rfl
      · by_cases hm0 : m = 0
        · rw [beq_iff_eq.2 (enc_nil_iff.2 hm0)]
          exact dec_true ((okT_mk _ _ _).2 (by rw [if_pos h0]; exact ⟨rfl, hm0⟩))
        · rw [beq_eq_false_iff_ne.2 (fun h => hm0 (enc_nil_iff.1 h))]
          exact dec_false (fun h => by rw [okT_mk, if_pos h0] at h; exact hm0 h.2)
  · have e0 : ¬ (enc n).toList = ([] : List UInt8) := fun h => h0 (enc_nil_iff.1 h)
    by_cases hm0 : m = 0
    · refine Ev.succ (h := fun k => some true) (fun k => ?_) ((Ev.of fun _ => rfl).eq (dec_true ?_))
      · simp only [R1Valid.j0]
        rw [if_neg (by decide), if_neg e0, if_pos (enc_nil_iff.2 hm0)]
      · rw [okT_mk, if_neg h0]
        exact Or.inl hm0
    · have e1 : ¬ (enc m).toList = ([] : List UInt8) := fun h => hm0 (enc_nil_iff.1 h)
      have hg := rGCD_ev (enc n) (enc m) hn hm
      rw [sv_enc, sv_enc] at hg
      refine Ev.succ (h := fun k => (R1GCD.f k (enc n) (enc m)).bind fun t => some (t.toList == ([1] : List UInt8))) (fun k => ?_) ((Ev.bind (h := fun _ t => some (t.toList == ([1] : List UInt8))) hg (Ev.of fun _ => rfl)).eq ?_)
      · simp only [R1Valid.j0]
        rw [if_neg (by decide), if_neg e0, if_neg e1]
      · by_cases h1 : Nat.gcd n m = 1
        · rw [beq_iff_eq.2 (enc_one_iff.2 h1)]
          exact dec_true ((okT_mk _ _ _).2 (by rw [if_neg h0]; exact Or.inr ⟨hm1, h1⟩))
        · rw [beq_eq_false_iff_ne.2 (fun h => h1 (enc_one_iff.1 h))]
          exact dec_false (fun h => by
            rw [okT_mk, if_neg h0] at h
            rcases h with h | h
            · exact hm0 h
            · exact h1 h.2)
theorem rValid_bad (b : Bool) (x y : ByteArray) : Ev (fun k => R1Valid.j0 k true b x y) false :=
  Ev.succ (h := fun k => some false) (fun k => by simp only [R1Valid.j0]; exact if_pos trivial) (Ev.of fun _ => rfl)
theorem okT_one (b : Bool) (x : ByteArray) : ¬ okT (b, x, enc 1) := by
  intro h
  have h2 := h.2.2
  simp only [sv_enc] at h2
  split at h2
  · exact absurd h2.2 (by decide)
  · rcases h2 with h2 | h2
    · exact absurd h2 (by decide)
    · exact h2.1 rfl
theorem rValid_ev (b : Bool) (x y : ByteArray) (hx : x.size ≤ 1099511627776) (hy : y.size ≤ 1099511627776) : Ev (fun k => R1Valid.f k b x y) (decide (okT (b, x, y))) := by
  unfold R1Valid.f
  refine Ev.bind (rNormalize_ev x (Nat.le_trans hx (by decide))) ?_
  by_cases h1 : enc (sv x) = x
  · simp only [if_pos (toList_iff.2 h1)]
    refine Ev.bind (rNormalize_ev y (Nat.le_trans hy (by decide))) ?_
    by_cases h2 : enc (sv y) = y
    · simp only [if_pos (toList_iff.2 h2)]
      by_cases h3 : y = enc 1
      · rw [beq_iff_eq.2 (toList_one.2 h3)]
        exact (rValid_bad b x y).eq (dec_false (by rw [h3]; exact okT_one b x))
      · rw [beq_eq_false_iff_ne.2 (fun h => h3 (toList_one.1 h))]
        have h := rValid_j0 b (sv x) (sv y) (by rw [h1]; exact hx) (by rw [h2]; exact hy) (fun e => h3 (by rw [← h2, e]))
        rw [h1, h2] at h
        exact h
    · simp only [if_neg (fun h => h2 (toList_iff.1 h))]
      exact (rValid_bad b x y).eq (dec_false (fun h => h2 h.2.1))
  · simp only [if_neg (fun h => h1 (toList_iff.1 h))]
    exact (rValid_bad b x y).eq (dec_false (fun h => h1 h.1))
theorem Fix_ev (t : T3) (h : sz t) : Ev (fun k => R1Fix.f k t.1 t.2.1 t.2.2) (tri (val3 t)) := by
  unfold R1Fix.f
  refine Ev.bind (rValid_ev t.1 t.2.1 t.2.2 (Nat.le_trans h.1 (by decide)) (Nat.le_trans h.2 (by decide))) ?_
  by_cases ho : okT t
  · rw [tri_val ho]
    exact Ev.of fun _ => if_pos (decide_eq_true ho)
  · rw [tri_bad ho]
    exact Ev.of fun _ => if_neg (fun h => ho (of_decide_eq_true h))
theorem Signum_ev (q : Rat) : R1Signum.f (tri q).1 (tri q).2.1 (tri q).2.2 = some (sign q) := signOf_ev q
theorem rSign_ev (s : T3) (hs : sz s) : Ev (fun k => R1Sign.f k s.1 s.2.1 s.2.2) (sign (val3 s)) := by
  unfold R1Sign.f
  exact Ev.bind (Fix_ev s hs) (Ev.pure (Signum_ev _) (Ev.of fun _ => rfl))
theorem lm_rd {n : Nat} (h0 : n ≠ 0) (h : ¬ (lm n).length > 1) : (lm n).length = 1 ∧ rd (lm n) 0 = (n : Int) := by
  have h1 : lm n ≠ [] := fun e => h0 (lm_nil.1 e)
  have h2 := lm_lv n
  match hl : lm n with
  | [] => exact absurd hl h1
  | [a] =>
    rw [hl] at h2
    refine ⟨rfl, ?_⟩
    show a = _
    rw [← h2]
    show a = a + 4294967296 * 0
    omega
  | a :: b :: t => rw [hl] at h; exact absurd (show (a :: b :: t).length > 1 by simp) h
theorem lm_big {n : Nat} (h : (lm n).length > 1) : n ≠ 1 ∧ n ≠ 0 := by
  constructor
  · intro e
    have := lm_len n 1 (by rw [e]; decide)
    omega
  · intro e
    rw [lm_nil.2 e] at h
    exact absurd h (by decide)
theorem red_j1 (b : Bool) {n d e f : Nat} (hn : n < 256 ^ e) (hd : d < 256 ^ f) (he : e ≤ 1099511627776) (hf : f ≤ 1099511627776) (h0 : d ≠ 0) : Ev (fun k => R1reduced.j1 k b (lm n) (lm d)) (b, enc n, dB d) := by
  refine Ev.succ (h := fun k => (R1text.f k (lm n)).bind fun t653 => (if ((lm d).length : Int) > 1 then ((R1text.f k (lm d)).bind fun t655 => (some (b, t653, t655))) else (if 0 < ((lm d).length : Int) then (if (rd (lm d) 0) > 1 then ((R1text.f k (lm d)).bind fun t657 => (some (b, t653, t657))) else (some (b, t653, (⟨#[]⟩ : ByteArray)))) else (none)))) (fun k => by simp only [R1reduced.j1]) ?_
  refine Ev.bind (textE hn he) ?_
  by_cases c : (lm d).length > 1
  · simp only [if_pos (show ((lm d).length : Int) > 1 by omega)]
    rw [dB_eq d (lm_big c).1]
    exact Ev.bind (textE hd hf) (Ev.of fun _ => rfl)
  · obtain ⟨h1, h2⟩ := lm_rd h0 c
    simp only [if_neg (show ¬ ((lm d).length : Int) > 1 by omega), if_pos (show 0 < ((lm d).length : Int) by omega), h2]
    by_cases c2 : d = 1
    · simp only [if_neg (show ¬ (d : Int) > 1 by omega)]
      unfold dB
      rw [if_pos c2]
      exact Ev.of fun _ => rfl
    · simp only [if_pos (show (d : Int) > 1 by omega)]
      rw [dB_eq d c2]
      exact Ev.bind (textE hd hf) (Ev.of fun _ => rfl)
theorem red_j0 (b : Bool) {n d e f : Nat} (hn : n < 256 ^ e) (hd : d < 256 ^ f) (he : e ≤ 274877906944) (hf : f ≤ 274877906944) (h0 : d ≠ 0) (c : Bool) (hc : c = false → Nat.gcd n d = 1) :
    Ev (fun k => R1reduced.j0 k b (lm n) (lm d) (lm (Nat.gcd n d)) c) (b, enc (n / Nat.gcd n d), dB (d / Nat.gcd n d)) := by
  have he1 : e ≤ 1099511627776 := by omega
  have hf1 : f ≤ 1099511627776 := by omega
  have gd : n.gcd d ∣ d := Nat.gcd_dvd_right n d
  have gn : 0 < n.gcd d := Nat.pos_of_ne_zero (fun h => h0 (Nat.eq_zero_of_gcd_eq_zero_right h))
  have gl : n.gcd d < 256 ^ f := Nat.lt_of_le_of_lt (Nat.le_of_dvd (by omega) gd) hd
  cases c with
  | false =>
    have h1 := hc rfl
    rw [h1, Nat.div_one, Nat.div_one]
    exact Ev.succ (h := fun k => R1reduced.j1 k b (lm n) (lm d)) (fun k => by simp only [R1reduced.j0]; exact if_neg (by decide)) (red_j1 b hn hd he1 hf1 h0)
  | true =>
    refine Ev.succ (h := fun k => (R1divide.f k (lm n) (lm (n.gcd d))).bind fun bt641 => ((R1divide.f k (lm d) (lm (n.gcd d))).bind fun bt647 => (R1reduced.j1 k b bt641.1 bt647.1))) (fun k => by simp only [R1reduced.j0]; exact if_pos trivial) ?_
    have hdd : d / n.gcd d ≠ 0 := gq_pos h0 gd
    exact Ev.bind (rdivide_ev n _ gn (Nat.le_trans (lme hn) he) (Nat.le_trans (lme gl) hf)) (Ev.bind (rdivide_ev d _ gn (Nat.le_trans (lme hd) hf) (Nat.le_trans (lme gl) hf)) (red_j1 b (Nat.lt_of_le_of_lt (Nat.div_le_self _ _) hn) (Nat.lt_of_le_of_lt (Nat.div_le_self _ _) hd) he1 hf1 hdd))
theorem redR (b : Bool) {n d e f : Nat} (hn : n < 256 ^ e) (hd : d < 256 ^ f) (he : e ≤ 274877906944) (hf : f ≤ 274877906944) (h0 : d ≠ 0) : Ev (fun k => R1reduced.f k b (lm n) (lm d)) (tri (mkRat (sg b n) d)) := by
  unfold R1reduced.f
  by_cases c1 : n = 0
  · have : lm n = [] := lm_nil.2 c1
    simp only [if_pos (show ((lm n).length : Int) = 0 by rw [this]; rfl)]
    rw [c1, tri_mk0]
    exact Ev.of fun _ => rfl
  · have : lm n ≠ [] := fun e => c1 (lm_nil.1 e)
    have hl : (lm n).length ≠ 0 := fun e => this (List.length_eq_zero_iff.1 e)
    simp only [if_neg (show ¬ ((lm n).length : Int) = 0 by omega)]
    rw [tri_mk b n d c1 h0]
    refine Ev.bind (common_ev n d (Nat.le_trans (lme hn) he) (Nat.le_trans (lme hd) hf)) ?_
    have gn : n.gcd d ≠ 0 := fun h => h0 (Nat.eq_zero_of_gcd_eq_zero_right h)
    by_cases c : (lm (n.gcd d)).length > 1
    · simp only [if_pos (show ((lm (n.gcd d)).length : Int) > 1 by omega)]
      exact red_j0 b hn hd he hf h0 true (fun h => by cases h)
    · obtain ⟨h1, h2⟩ := lm_rd gn c
      simp only [if_neg (show ¬ ((lm (n.gcd d)).length : Int) > 1 by omega), if_pos (show 0 < ((lm (n.gcd d)).length : Int) by omega), h2]
      exact red_j0 b hn hd he hf h0 _ (fun h => by have := of_decide_eq_false h; omega)
theorem lm_one : lm 1 = [1] := by
  unfold lm
  rw [dif_neg (by decide)]
  have : lm (1 / 4294967296) = [] := lm_nil.2 (by decide)
  rw [this]
  rfl
theorem rden_ev (q : Rat) {e : Nat} (hq : Bd e q) (he : e ≤ 1099511627776) : Ev (fun k => R1den.f k (tri q).1 (tri q).2.1 (tri q).2.2) (lm q.den) := by
  unfold R1den.f tri dB
  by_cases h : q.den = 1
  · simp only [if_pos h, if_pos (toList_nil.2 (rfl : (⟨#[]⟩ : ByteArray) = ⟨#[]⟩))]
    rw [h, lm_one]
    exact Ev.of fun _ => rfl
  · simp only [if_neg h, if_neg (fun e => absurd (enc_nil_iff.1 e) q.den_nz)]
    exact Ev.bind (limbsE hq.2 he) (Ev.of fun _ => rfl)
theorem num_nil (q : Rat) : (tri q).2.1.toList = ([] : List UInt8) ↔ q = 0 := by
  show (enc (mag q)).toList = [] ↔ _
  rw [enc_nil_iff, mag_zero]
theorem Plus_ev (p q : Rat) {e : Nat} (hp : Bd e p) (hq : Bd e q) (he : e ≤ 91625968981) : Ev (fun k => R1Plus.f k (tri p).1 (tri p).2.1 (tri p).2.2 (tri q).1 (tri q).2.1 (tri q).2.2) (tri (p + q)) := by
  unfold R1Plus.f
  by_cases h1 : p = 0
  · simp only [if_pos ((num_nil p).2 h1)]
    rw [h1, Rat.zero_add]
    exact Ev.of fun _ => rfl
  · simp only [if_neg (fun h => h1 ((num_nil p).1 h))]
    by_cases h2 : q = 0
    · simp only [if_pos ((num_nil q).2 h2)]
      rw [h2, Rat.add_zero]
      exact Ev.of fun _ => rfl
    · simp only [if_neg (fun h => h2 ((num_nil q).1 h))]
      have he1 : e ≤ 1099511627776 := by omega
      have he2 : e ≤ 274877906944 := by omega
      have he3 : e + e ≤ 274877906944 := by omega
      have he4 : e + e + 1 ≤ 274877906944 := by omega
      have hx := mul_lt hp.1 hq.2
      have hy := mul_lt hq.1 hp.2
      have hd := mul_lt hp.2 hq.2
      have h0 := qmul_pos p q
      refine Ev.bind (rden_ev p hp he1) (Ev.bind (rden_ev q hq he1) (Ev.bind (limbsE hp.1 he1) (Ev.bind (timesE hp.1 hq.2 he2 he2) (Ev.bind (limbsE hq.1 he1) (Ev.bind (timesE hq.1 hp.2 he2 he2) (Ev.bind (timesE hp.2 hq.2 he2 he2) ?_))))))
      rw [add_sg]
      have hs : (tri p).1 = sgn p := rfl
      have ht : (tri q).1 = sgn q := rfl
      rw [hs, ht]
      generalize sgn p = a
      generalize sgn q = b
      by_cases hab : a = b
      · subst hab
        rw [sg_add]
        simp only [if_pos (show (a == a) = true by simp)]
        exact Ev.bind (plusE hx hy he3 he3) (Ev.bind (redR a (add_lt hx hy) hd he4 he3 h0) (Ev.of fun _ => rfl))
      · simp only [if_neg (show ¬ (a == b) = true from fun h => hab (beq_iff_eq.1 h))]
        have ho := order_ev (lm_can (mag p * q.den)) (lm_can (mag q * p.den)) (Nat.le_trans (Nat.le_trans (lme hx) he3) (by decide)) (Nat.le_trans (Nat.le_trans (lme hy) he3) (by decide))
        rw [lm_lv, lm_lv] at ho
        refine Ev.bind ho ?_
        by_cases hle : mag q * p.den ≤ mag p * q.den
        · have hc : ¬ cmpI ((mag p * q.den : Nat) : Int) ((mag q * p.den : Nat) : Int) < 0 := by
            unfold cmpI
            split
            · omega
            · split <;> omega
          simp only [if_neg hc]
          rw [sg_sub a b _ _ hab hle]
          exact Ev.bind (minusE hle hx he3) (Ev.bind (redR a (Nat.lt_of_le_of_lt (Nat.sub_le _ _) hx) hd he3 he3 h0) (Ev.of fun _ => rfl))
        · have hc : cmpI ((mag p * q.den : Nat) : Int) ((mag q * p.den : Nat) : Int) < 0 := by
            unfold cmpI
            rw [if_pos (by omega)]
            decide
          simp only [if_pos hc]
          rw [sg_sub' a b _ _ hab (by omega)]
          exact Ev.bind (minusE (show mag p * q.den ≤ mag q * p.den by omega) hy he3) (Ev.bind (redR b (Nat.lt_of_le_of_lt (Nat.sub_le _ _) hy) hd he3 he3 h0) (Ev.of fun _ => rfl))
theorem Times_ev (p q : Rat) {e : Nat} (hp : Bd e p) (hq : Bd e q) (he : e ≤ 91625968981) : Ev (fun k => R1Times.f k (tri p).1 (tri p).2.1 (tri p).2.2 (tri q).1 (tri q).2.1 (tri q).2.2) (tri (p * q)) := by
  have hz : ∀ (x : Bool) (a : Bool) (b c : ByteArray) (a' : Bool) (b' c' : ByteArray), Ev (fun k => R1Times.j0 k true a b c a' b' c') (tri 0) := fun x a b c a' b' c' =>
    Ev.succ (h := fun k => some (tri 0)) (fun k => by rw [tri_zero]; simp only [R1Times.j0]; exact if_pos trivial) (Ev.of fun _ => rfl)
  unfold R1Times.f
  by_cases h1 : p = 0
  · simp only [if_pos ((num_nil p).2 h1)]
    rw [h1, Rat.zero_mul]
    exact hz true _ _ _ _ _ _
  · simp only [if_neg (fun h => h1 ((num_nil p).1 h))]
    by_cases h2 : q = 0
    · rw [beq_iff_eq.2 ((num_nil q).2 h2), h2, Rat.mul_zero]
      exact hz true _ _ _ _ _ _
    · rw [beq_eq_false_iff_ne.2 (fun h => h2 ((num_nil q).1 h)), mul_law]
      have he1 : e ≤ 1099511627776 := by omega
      have he2 : e ≤ 274877906944 := by omega
      have he3 : e + e ≤ 274877906944 := by omega
      refine Ev.succ (h := fun k => (R1limbs.f k (tri p).2.1).bind fun t711 => ((R1limbs.f k (tri q).2.1).bind fun t714 => ((R1times.f k t711 t714).bind fun t717 => ((R1den.f k (tri p).1 (tri p).2.1 (tri p).2.2).bind fun t720 => ((R1den.f k (tri q).1 (tri q).2.1 (tri q).2.2).bind fun t723 => ((R1times.f k t720 t723).bind fun t726 => ((R1reduced.f k ((tri p).1 != (tri q).1) t717 t726).bind fun bt729 => (some (bt729.1, bt729.2.1, bt729.2.2))))))))) (fun k => by simp only [R1Times.j0]; exact if_neg (by decide)) ?_
      exact Ev.bind (limbsE hp.1 he1) (Ev.bind (limbsE hq.1 he1) (Ev.bind (timesE hp.1 hq.1 he2 he2) (Ev.bind (rden_ev p hp he1) (Ev.bind (rden_ev q hq he1) (Ev.bind (timesE hp.2 hq.2 he2 he2) (Ev.bind (redR _ (mul_lt hp.1 hq.1) (mul_lt hp.2 hq.2) he3 he3 (qmul_pos p q)) (Ev.of fun _ => rfl)))))))
theorem Over_ev (p q : Rat) {e : Nat} (hp : Bd e p) (hq : Bd e q) (he : e ≤ 91625968981) (h0 : q ≠ 0) : Ev (fun k => R1Over.f k (tri p).1 (tri p).2.1 (tri p).2.2 (tri q).1 (tri q).2.1 (tri q).2.2) (tri (p / q)) := by
  unfold R1Over.f
  by_cases h1 : p = 0
  · simp only [if_pos ((num_nil p).2 h1)]
    rw [h1, Rat.div_def, Rat.zero_mul, tri_zero]
    exact Ev.of fun _ => rfl
  · simp only [if_neg (fun h => h1 ((num_nil p).1 h))]
    have he1 : e ≤ 1099511627776 := by omega
    have he2 : e ≤ 274877906944 := by omega
    have he3 : e + e ≤ 274877906944 := by omega
    rw [div_law p q h0]
    exact Ev.bind (limbsE hp.1 he1) (Ev.bind (rden_ev q hq he1) (Ev.bind (timesE hp.1 hq.2 he2 he2) (Ev.bind (rden_ev p hp he1) (Ev.bind (limbsE hq.1 he1) (Ev.bind (timesE hp.2 hq.1 he2 he2) (Ev.bind (redR _ (mul_lt hp.1 hq.2) (mul_lt hp.2 hq.1) he3 he3 (Nat.mul_ne_zero p.den_nz (fun e => h0 (mag_zero.1 e)))) (Ev.of fun _ => rfl)))))))
theorem tri_int (n : Int) : tri (n : Rat) = (decide (n < 0), enc n.natAbs, ⟨#[]⟩) := by
  unfold tri dB
  rw [Rat.num_intCast, Rat.den_intCast, if_pos rfl]
theorem rInt_ev (n : Int) (h0 : -9223372036854775808 ≤ n) (h1 : n ≤ 9223372036854775807) : Ev (fun k => R1Int.f k n) (tri (n : Rat)) := by
  unfold R1Int.f
  rw [tri_int]
  exact Ev.pure (size_ev n h0 h1) (Ev.bind (rFromUint_ev n.natAbs (by omega)) (Ev.of fun _ => rfl))
theorem rMake_ev (b : Bool) {n d e f : Nat} (hn : n < 256 ^ e) (hd : d < 256 ^ f) (he : e ≤ 274877906944) (hf : f ≤ 274877906944) (h0 : d ≠ 0) : Ev (fun k => R1Make.f k b (enc n) (enc d)) ((tri (mkRat (sg b n) d)).1, (tri (mkRat (sg b n) d)).2.1, (tri (mkRat (sg b n) d)).2.2, true) := by
  unfold R1Make.f
  refine Ev.bind (limbsE hd (by omega)) ?_
  have hl : (lm d).length ≠ 0 := fun e => h0 (lm_nil.1 (List.length_eq_zero_iff.1 e))
  simp only [if_neg (show ¬ ((lm d).length : Int) = 0 by omega)]
  exact Ev.bind (limbsE hn (by omega)) (Ev.bind (redR b hn hd he hf h0) (Ev.of fun _ => rfl))
theorem Fraction_ev (a b : Int) (h0 : -9223372036854775808 ≤ a) (h1 : a ≤ 9223372036854775807) (hb : 0 < b) (hb1 : b ≤ 9223372036854775807) :
    Ev (fun k => R1Fraction.f k a b) ((tri (mkRat a b.toNat)).1, (tri (mkRat a b.toNat)).2.1, (tri (mkRat a b.toNat)).2.2, true) := by
  unfold R1Fraction.f
  have e1 : decide (b < 0) = false := decide_eq_false (by omega)
  have e2 : b.natAbs = b.toNat := by omega
  have h := rMake_ev (decide (a < 0)) (natAbs_lt a h0 h1) (natAbs_lt b (by omega) hb1) (by decide) (by decide) (by omega)
  have e3 : sg (decide (a < 0)) a.natAbs = a := by
    unfold sg
    by_cases h : a < 0
    · rw [decide_eq_true h, if_pos rfl]; omega
    · rw [decide_eq_false h, if_neg (by decide)]; omega
  rw [e3, e2] at h
  refine Ev.pure (size_ev a h0 h1) (Ev.bind (rFromUint_ev a.natAbs (by omega)) (Ev.pure (size_ev b (by omega) hb1) (Ev.bind (rFromUint_ev b.natAbs (by omega)) ?_)))
  rw [e1, e2, Bool.bne_false]
  exact Ev.bind h (Ev.of fun _ => rfl)
abbrev Stp := S29
abbrev RatS := S23
def t3 (s : RatS) : T3 := (s.f0, s.f1, s.f2)
def rv (x : Stp) : Rat := val3 (t3 x.f1)
def z0 : Stp := z29
def isDayP (a : Int) : Prop := 0 ≤ a ∧ a ≤ 1048576
instance (a : Int) : Decidable (isDayP a) := by unfold isDayP; infer_instance
theorem isDay_t {a : Int} (h : isDayP a) : I1isDay.f a = some true := by
  unfold I1isDay.f
  rw [if_pos h.1, decide_eq_true h.2]
theorem isDay_f {a : Int} (h : ¬ isDayP a) : I1isDay.f a = some false := by
  unfold I1isDay.f
  by_cases h1 : a ≥ 0
  · rw [if_pos h1, decide_eq_false (fun h2 => h ⟨h1, h2⟩)]
  · rw [if_neg h1]
theorem IsDay_t {a : Int} (h : isDayP a) : R1IsDay.f a = some true := isDay_t h
theorem IsDay_f {a : Int} (h : ¬ isDayP a) : R1IsDay.f a = some false := isDay_f h
def late (pv : Option Int) (a : Int) : Bool := match pv with
  | some p => decide (a ≤ p)
  | none => false
def chk : Option Int → List Stp → Int
  | _, [] => 0
  | pv, x :: t => if isDayP x.f0 then (if late pv x.f0 = true then 15 else if sign (rv x) < 0 then 7 else chk (some x.f0) t) else 1
def pvAt (l : List Stp) (i : Nat) : Option Int := if i = 0 then none else some (l.getD (i - 1) z0).f0
theorem drop_at {l : List Stp} {i : Nat} (h : i < l.length) : l.drop i = l.getD i z0 :: l.drop (i + 1) := by
  rw [List.drop_eq_getElem_cons h, List.getD_eq_getElem?_getD, List.getElem?_eq_getElem h]
  rfl
theorem getD_mem {l : List Stp} {i : Nat} (h : i < l.length) : l.getD i z0 ∈ l := by
  rw [List.getD_eq_getElem?_getD, List.getElem?_eq_getElem h]
  exact List.getElem_mem h
theorem rd_at (l : List Stp) (i : Nat) : rd_T29 l (i : Int) = l.getD i z0 := by
  show l.getD (i : Int).toNat _ = _
  rw [Int.toNat_natCast]
  rfl
theorem pvAt_succ (l : List Stp) (i : Nat) : pvAt l (i + 1) = some (l.getD i z0).f0 := by
  unfold pvAt
  rw [if_neg (by omega), Nat.add_sub_cancel]
theorem chk_l0 (l : List Stp) (hl : ∀ x ∈ l, sz (t3 x.f1)) (hlen : l.length ≤ 4611686018427387904) : ∀ d i, i + d = l.length → Ev (fun k => I1Check.l0 k l l (l.length : Int) (i : Int)) (chk (pvAt l i) (l.drop i))
  | 0, i, h => by
    rw [List.drop_eq_nil_of_le (by omega)]
    exact Ev.succ (h := fun _ => some 0) (fun k => by simp only [I1Check.l0]; exact if_neg (by omega)) (Ev.of fun _ => rfl)
  | d + 1, i, h => by
    have hi : i < l.length := by omega
    have h1 : (i : Int) < (l.length : Int) := by omega
    have ih := chk_l0 l hl hlen d (i + 1) (by omega)
    rw [pvAt_succ] at ih
    rw [drop_at hi]
    have hs := hl _ (getD_mem hi)
    have hr := rd_at l i
    have hp : i ≠ 0 → rd_T29 l (wrap64 ((i : Int) - 1)) = l.getD (i - 1) z0 := fun h0 => by
      rw [show wrap64 ((i : Int) - 1) = ((i - 1 : Nat) : Int) by rw [w64 (by omega) (by omega)]; omega]
      exact rd_at l (i - 1)
    have hw : i ≠ 0 → 0 ≤ wrap64 ((i : Int) - 1) ∧ wrap64 ((i : Int) - 1) < (l.length : Int) := fun h0 => by rw [w64 (by omega) (by omega)]; omega
    have hn : wrap64 ((i : Int) + 1) = ((i + 1 : Nat) : Int) := ix_succ (by omega)
    generalize l.getD i z0 = x at hr hs ih ⊢
    show Ev _ (if isDayP x.f0 then (if late (pvAt l i) x.f0 = true then 15 else if sign (rv x) < 0 then 7 else chk (some x.f0) (l.drop (i + 1))) else 1)
    by_cases hd : isDayP x.f0
    · rw [if_pos hd]
      refine Ev.succ (h := fun k => I1Check.j1 k l l (l.length : Int) (i : Int) (late (pvAt l i) x.f0) x.f0 x.f1.f0 x.f1.f1 x.f1.f2) (fun k => ?_) ?_
      · simp only [I1Check.l0]
        rw [if_pos h1, if_pos (Int.natCast_nonneg i), if_pos h1, hr, isDay_t hd, Option.bind_some, if_pos rfl]
        by_cases h0 : i = 0
        · rw [if_neg (by omega)]
          unfold pvAt
          rw [if_pos h0]
          rfl
        · rw [if_pos (by omega), if_pos (hw h0).1, if_pos (hw h0).2, hp h0]
          unfold pvAt
          rw [if_neg h0]
          rfl
      · by_cases hlt : late (pvAt l i) x.f0 = true
        · rw [if_pos hlt]
          exact Ev.succ (h := fun _ => some 15) (fun k => by simp only [I1Check.j1]; exact if_pos hlt) (Ev.of fun _ => rfl)
        · rw [if_neg hlt]
          refine Ev.succ (h := fun k => (Q1Sign.f k x.f1.f0 x.f1.f1 x.f1.f2).bind fun t => (if t < 0 then (some 7) else (I1Check.l0 k l l (l.length : Int) (wrap64 ((i : Int) + 1))))) (fun k => by simp only [I1Check.j1]; exact if_neg hlt) ?_
          refine Ev.bind (Sign_ev (t3 x.f1) hs) ?_
          by_cases hsg : sign (rv x) < 0
          · rw [if_pos hsg]
            exact Ev.of fun _ => if_pos hsg
          · rw [if_neg hsg]
            refine Ev.congr (h := fun k => I1Check.l0 k l l (l.length : Int) ((i + 1 : Nat) : Int)) (fun k => ?_) ih
            exact (if_neg hsg).trans (by rw [hn])
    · rw [if_neg hd]
      refine Ev.succ (h := fun _ => some 1) (fun k => ?_) (Ev.of fun _ => rfl)
      simp only [I1Check.l0]
      rw [if_pos h1, if_pos (Int.natCast_nonneg i), if_pos h1, hr, isDay_f hd, Option.bind_some, if_neg (by decide)]
def chkAll (l : List Stp) : Int := if l.length > 64 then 2 else chk none l
theorem Check_ev (l : List Stp) (hl : l.length ≤ 64 → ∀ x ∈ l, sz (t3 x.f1)) : Ev (fun k => I1Check.f k l) (chkAll l) := by
  unfold I1Check.f chkAll
  by_cases h : l.length > 64
  · rw [if_pos h]
    exact Ev.of fun _ => if_pos (by omega)
  · rw [if_neg h]
    refine Ev.congr (h := fun k => I1Check.l0 k l l (l.length : Int) 0) (fun k => if_neg (by omega)) ?_
    exact chk_l0 l (hl (by omega)) (by omega) l.length 0 (by omega)
theorem steps_l0 (l : List Stp) (hl : ∀ x ∈ l, sz (t3 x.f1)) (hlen : l.length ≤ 4611686018427387904) : ∀ d i, i + d = l.length → Ev (fun k => R1CheckSteps.l0 k l (i : Int)) (chk (pvAt l i) (l.drop i))
  | 0, i, h => by
    rw [List.drop_eq_nil_of_le (by omega)]
    exact Ev.succ (h := fun _ => some 0) (fun k => by simp only [R1CheckSteps.l0]; exact if_neg (by omega)) (Ev.of fun _ => rfl)
  | d + 1, i, h => by
    have hi : i < l.length := by omega
    have h1 : (i : Int) < (l.length : Int) := by omega
    have ih := steps_l0 l hl hlen d (i + 1) (by omega)
    rw [pvAt_succ] at ih
    rw [drop_at hi]
    have hs := hl _ (getD_mem hi)
    have hr := rd_at l i
    have hp : i ≠ 0 → rd_T29 l (wrap64 ((i : Int) - 1)) = l.getD (i - 1) z0 := fun h0 => by
      rw [show wrap64 ((i : Int) - 1) = ((i - 1 : Nat) : Int) by rw [w64 (by omega) (by omega)]; omega]
      exact rd_at l (i - 1)
    have hw : i ≠ 0 → 0 ≤ wrap64 ((i : Int) - 1) ∧ wrap64 ((i : Int) - 1) < (l.length : Int) := fun h0 => by rw [w64 (by omega) (by omega)]; omega
    have hn : wrap64 ((i : Int) + 1) = ((i + 1 : Nat) : Int) := ix_succ (by omega)
    generalize l.getD i z0 = x at hr hs ih ⊢
    show Ev _ (if isDayP x.f0 then (if late (pvAt l i) x.f0 = true then 15 else if sign (rv x) < 0 then 7 else chk (some x.f0) (l.drop (i + 1))) else 1)
    by_cases hd : isDayP x.f0
    · rw [if_pos hd]
      refine Ev.succ (h := fun k => R1CheckSteps.j1 k l (i : Int) (late (pvAt l i) x.f0)) (fun k => ?_) ?_
      · simp only [R1CheckSteps.l0]
        rw [if_pos h1, if_pos (Int.natCast_nonneg i), hr, IsDay_t hd, Option.bind_some, if_pos rfl]
        by_cases h0 : i = 0
        · rw [if_neg (by omega)]
          unfold pvAt
          rw [if_pos h0]
          rfl
        · rw [if_pos (by omega), if_pos (hw h0).1, if_pos (hw h0).2, hp h0]
          unfold pvAt
          rw [if_neg h0]
          rfl
      · by_cases hlt : late (pvAt l i) x.f0 = true
        · rw [if_pos hlt]
          exact Ev.succ (h := fun _ => some 15) (fun k => by simp only [R1CheckSteps.j1]; exact if_pos hlt) (Ev.of fun _ => rfl)
        · rw [if_neg hlt]
          refine Ev.succ (h := fun k => (R1Sign.f k x.f1.f0 x.f1.f1 x.f1.f2).bind fun t => (if t < 0 then (some 7) else (R1CheckSteps.l0 k l (wrap64 ((i : Int) + 1))))) (fun k => by simp only [R1CheckSteps.j1]; rw [if_neg hlt, if_pos (Int.natCast_nonneg i), if_pos h1, hr]) ?_
          refine Ev.bind (rSign_ev (t3 x.f1) hs) ?_
          by_cases hsg : sign (rv x) < 0
          · rw [if_pos hsg]
            exact Ev.of fun _ => if_pos hsg
          · rw [if_neg hsg]
            refine Ev.congr (h := fun k => R1CheckSteps.l0 k l ((i + 1 : Nat) : Int)) (fun k => ?_) ih
            exact (if_neg hsg).trans (by rw [hn])
    · rw [if_neg hd]
      refine Ev.succ (h := fun _ => some 1) (fun k => ?_) (Ev.of fun _ => rfl)
      simp only [R1CheckSteps.l0]
      rw [if_pos h1, if_pos (Int.natCast_nonneg i), hr, IsDay_f hd, Option.bind_some, if_neg (by decide)]
theorem CheckSteps_ev (l : List Stp) (hl : l.length ≤ 64 → ∀ x ∈ l, sz (t3 x.f1)) : Ev (fun k => R1CheckSteps.f k l) (chkAll l) := by
  unfold R1CheckSteps.f chkAll
  by_cases h : l.length > 64
  · rw [if_pos h]
    exact Ev.of fun _ => if_pos (by omega)
  · rw [if_neg h]
    refine Ev.congr (h := fun k => R1CheckSteps.l0 k l 0) (fun k => if_neg (by omega)) ?_
    exact steps_l0 l (hl (by omega)) (by omega) l.length 0 (by omega)
def stOf (l : List Stp) : St := l.map fun x => (x.f0, rv x)
theorem chk_asc : ∀ (l : List Stp) (pv : Option Int), chk pv l = 0 → Asc (stOf l) ∧ (∀ x ∈ l, isDayP x.f0 ∧ ¬ sign (rv x) < 0) ∧ (∀ x t, l = x :: t → late pv x.f0 = false)
  | [], _, _ => ⟨trivial, (fun _ h => by cases h), (fun _ _ h => by cases h)⟩
  | x :: t, pv, h => by
    unfold chk at h
    by_cases hd : isDayP x.f0
    · rw [if_pos hd] at h
      by_cases hlt : late pv x.f0 = true
      · rw [if_pos hlt] at h; exact absurd h (by decide)
      · rw [if_neg hlt] at h
        by_cases hs : sign (rv x) < 0
        · rw [if_pos hs] at h; exact absurd h (by decide)
        · rw [if_neg hs] at h
          obtain ⟨h1, h2, h3⟩ := chk_asc t (some x.f0) h
          refine ⟨?_, ?_, ?_⟩
          · cases t with
            | nil => trivial
            | cons y t' => exact ⟨by have := of_decide_eq_false (h3 y t' rfl); omega, h1⟩
          · intro y hy
            rcases List.mem_cons.1 hy with rfl | hy
            · exact ⟨hd, hs⟩
            · exact h2 y hy
          · rintro y t' e
            injection e with e1 _
            subst e1
            cases hb : late pv x.f0
            · rfl
            · exact absurd hb hlt
    · rw [if_neg hd] at h; exact absurd h (by decide)
def Fine (l : List Stp) : Prop := l.length ≤ 64 ∧ (∀ x ∈ l, sz (t3 x.f1) ∧ Bd 25 (rv x))
theorem Fine.sz {l : List Stp} (h : Fine l) : l.length ≤ 64 → ∀ x ∈ l, sz (t3 x.f1) := fun _ x hx => (h.2 x hx).1
theorem bd_int {n : Int} (h0 : -9223372036854775808 ≤ n) (h1 : n ≤ 9223372036854775807) : Bd 8 (n : Rat) := by
  refine ⟨?_, ?_⟩
  · show (n : Rat).num.natAbs < _
    rw [Rat.num_intCast]
    exact natAbs_lt n h0 h1
  · rw [Rat.den_intCast]
    exact one_lt (by decide)
theorem sim_j1 (l : List Stp) (a b base : Int) (first last : Int) (i : Nat) (q r : Rat) (F : Int) (x : Stp) (hx : sz (t3 x.f1)) (hq : sz (tri q)) (hb : Bd 25 (rv x)) (hbq : Bd 274877906000 (q + rv x * (posI (last - first) : Int)) ∧ Bd 274877906000 q)
    (h0 : 0 ≤ first ∧ first ≤ 1048577) (h1 : 0 ≤ last ∧ last ≤ 1048577) (res : T3)
    (ih : Ev (fun k => I1simple.l0 k l a b base l (l.length : Int) ((i + 1 : Nat) : Int) (tri (q + rv x * (posI (last - first) : Int))).1 (tri (q + rv x * (posI (last - first) : Int))).2.1 (tri (q + rv x * (posI (last - first) : Int))).2.2) res)
    (hi : i ≤ 4611686018427387904) :
    Ev (fun k => I1simple.j1 k l a b base first last l (l.length : Int) (i : Int) (tri q).1 (tri q).2.1 (tri q).2.2 x.f0 x.f1.f0 x.f1.f1 x.f1.f2) res := by
  have hn : wrap64 ((i : Int) + 1) = ((i + 1 : Nat) : Int) := ix_succ hi
  by_cases c : last > first
  · have hp : posI (last - first) = last - first := posI_pos (by omega)
    rw [hp] at ih hbq
    have hw : wrap64 (last - first) = last - first := w64 (by omega) (by omega)
    have bi : Bd 8 ((last - first : Int) : Rat) := bd_int (by omega) (by omega)
    have si : sz (tri ((last - first : Int) : Rat)) := sz_tri bi (by decide)
    have bm := hb.mul bi
    have sm : sz (tri (rv x * ((last - first : Int) : Rat))) := sz_tri bm (by decide)
    refine Ev.succ (h := fun k => (Q1Int.f k (wrap64 (last - first))).bind fun bt801 => ((Q1Multiply.f k x.f1.f0 x.f1.f1 x.f1.f2 bt801.1 bt801.2.1 bt801.2.2).bind fun bt804 => ((Q1Add.f k (tri q).1 (tri q).2.1 (tri q).2.2 bt804.1 bt804.2.1 bt804.2.2).bind fun bt807 => (I1simple.l0 k l a b base l (l.length : Int) (wrap64 ((i : Int) + 1)) bt807.1 bt807.2.1 bt807.2.2)))) (fun k => by simp only [I1simple.j1]; exact if_pos c) ?_
    rw [hw, hn]
    refine Ev.bind (Int_ev (last - first) (by omega) (by omega)) ?_
    have e1 := Mul_ev (t3 x.f1) (tri ((last - first : Int) : Rat)) hx si
    rw [val_tri] at e1
    refine Ev.bind e1 ?_
    have e2 := Add_ev' (tri q) (tri (rv x * ((last - first : Int) : Rat))) hq sm
    rw [val_tri, val_tri] at e2
    exact Ev.bind e2 ih
  · have hp : posI (last - first) = 0 := posI_of_le (by omega)
    rw [hp] at ih
    have e : q + rv x * ((0 : Int) : Rat) = q := by
      show q + rv x * 0 = q
      rw [Rat.mul_zero, Rat.add_zero]
    rw [e] at ih
    refine Ev.succ (h := fun k => I1simple.l0 k l a b base l (l.length : Int) ((i + 1 : Nat) : Int) (tri q).1 (tri q).2.1 (tri q).2.2) (fun k => ?_) ih
    simp only [I1simple.j1]
    rw [if_neg c, hn]
theorem mx_eq (a b : Int) : mx a b = max a b := by unfold mx; omega
theorem mn_eq (a b : Int) : mn a b = min a b := by unfold mn; omega
theorem sim_l0 (l : List Stp) (hf : Fine l) (hday : ∀ x ∈ l, isDayP x.f0) (a b base : Int) (ha : isDayP a) (hb : isDayP b) (hbase : 0 < base) (hbase1 : base ≤ 9223372036854775807) :
    ∀ d i, i + d = l.length → ∀ q, Bd (i * 40 + 1) q → Ev (fun k => I1simple.l0 k l a b base l (l.length : Int) (i : Int) (tri q).1 (tri q).2.1 (tri q).2.2) (tri ((q + segSum (stOf (l.drop i)) a b) / (base : Rat)))
  | 0, i, h, q, hq => by
    rw [List.drop_eq_nil_of_le (by omega)]
    have hl := hf.1
    have e : segSum (stOf []) a b = 0 := rfl
    rw [e, Rat.add_zero]
    refine Ev.succ (h := fun k => (Q1Int.f k base).bind fun bt790 => ((Q1Divide.f k (tri q).1 (tri q).2.1 (tri q).2.2 bt790.1 bt790.2.1 bt790.2.2).bind fun bt793 => (some (bt793.1, bt793.2.1, bt793.2.2.1)))) (fun k => by simp only [I1simple.l0]; exact if_neg (by omega)) ?_
    refine Ev.bind (Int_ev base (by omega) hbase1) ?_
    have e1 := Div_ev (tri q) (tri (base : Rat)) (sz_tri hq (by omega)) (sz_tri (bd_int (by omega) hbase1) (by decide))
    rw [val_tri, val_tri, if_neg (fun e => by have := Rat.intCast_eq_zero_iff.1 e; omega)] at e1
    exact Ev.bind e1 (Ev.of fun _ => rfl)
  | d + 1, i, h, q, hq => by
    have hi : i < l.length := by omega
    have h1 : (i : Int) < (l.length : Int) := by omega
    have hl := hf.1
    have hx := hf.2 _ (getD_mem hi)
    have hdx := hday _ (getD_mem hi)
    have hr := rd_at l i
    have hn : wrap64 ((i : Int) + 1) = ((i + 1 : Nat) : Int) := ix_succ (by omega)
    unfold isDayP at ha hb hdx
    have step : ∀ last : Int, 0 ≤ last → last ≤ 1048577 → Bd ((i + 1) * 40 + 1) (q + rv (l.getD i z0) * (posI (last - mx a (l.getD i z0).f0) : Int)) := fun last g0 g1 => by
      have hp : 0 ≤ posI (last - mx a (l.getD i z0).f0) ∧ posI (last - mx a (l.getD i z0).f0) ≤ 1048577 := by
        unfold posI
        rw [mx_eq]
        split <;> omega
      have b1 := hx.2.mul (bd_int (n := posI (last - mx a (l.getD i z0).f0)) (by omega) (by omega))
      exact (hq.add b1).up (by omega)
    have go : ∀ last : Int, 0 ≤ last → last ≤ 1048577 → (rv (l.getD i z0) * (posI (last - mx a (l.getD i z0).f0) : Int) + segSum (stOf (l.drop (i + 1))) a b = segSum (stOf (l.drop i)) a b) →
        Ev (fun k => I1simple.j1 k l a b base (mx a (l.getD i z0).f0) last l (l.length : Int) (i : Int) (tri q).1 (tri q).2.1 (tri q).2.2 (l.getD i z0).f0 (l.getD i z0).f1.f0 (l.getD i z0).f1.f1 (l.getD i z0).f1.f2) (tri ((q + segSum (stOf (l.drop i)) a b) / (base : Rat))) := fun last g0 g1 es => by
      have bs := step last g0 g1
      have ih := sim_l0 l hf hday a b base ha hb hbase hbase1 d (i + 1) (by omega) _ bs
      rw [← es, ← Rat.add_assoc]
      have m0 : 0 ≤ mx a (l.getD i z0).f0 ∧ mx a (l.getD i z0).f0 ≤ 1048577 := by rw [mx_eq]; omega
      exact sim_j1 l a b base _ last i q 0 0 (l.getD i z0) hx.1 (sz_tri hq (by omega)) hx.2 ⟨bs.up (by omega), hq.up (by omega)⟩ m0 ⟨g0, g1⟩ _ ih (by omega)
    by_cases c : i + 1 < l.length
    · have hr2 := rd_at l (i + 1)
      have hd2 := hday _ (getD_mem c)
      unfold isDayP at hd2
      refine Ev.succ (h := fun k => I1simple.j1 k l a b base (mx a (l.getD i z0).f0) (mn b (l.getD (i + 1) z0).f0) l (l.length : Int) (i : Int) (tri q).1 (tri q).2.1 (tri q).2.2 (l.getD i z0).f0 (l.getD i z0).f1.f0 (l.getD i z0).f1.f1 (l.getD i z0).f1.f2) (fun k => ?_) (go _ (by rw [mn_eq]; omega) (by rw [mn_eq]; omega) ?_)
      · simp only [I1simple.l0]
        rw [if_pos h1, if_pos (Int.natCast_nonneg i), if_pos h1, hn, if_pos (by omega), if_pos (by omega), hr, hr2]
      · rw [drop_at hi, drop_at c, mx_eq, mn_eq]
        rfl
    · refine Ev.succ (h := fun k => I1simple.j1 k l a b base (mx a (l.getD i z0).f0) b l (l.length : Int) (i : Int) (tri q).1 (tri q).2.1 (tri q).2.2 (l.getD i z0).f0 (l.getD i z0).f1.f0 (l.getD i z0).f1.f1 (l.getD i z0).f1.f2) (fun k => ?_) (go _ (by omega) (by omega) ?_)
      · simp only [I1simple.l0]
        rw [if_pos h1, if_pos (Int.natCast_nonneg i), if_pos h1, hn, if_neg (by omega), hr]
      · rw [drop_at hi, List.drop_eq_nil_of_le (show l.length ≤ i + 1 by omega), mx_eq]
        show rv (l.getD i z0) * _ + 0 = rv (l.getD i z0) * _
        rw [Rat.add_zero]
def simR (l : List Stp) (a b base : Int) : Rat := segSum (stOf l) a b / (base : Rat)
theorem simple_ev (l : List Stp) (hf : Fine l) (hday : ∀ x ∈ l, isDayP x.f0) (a b base : Int) (ha : isDayP a) (hb : isDayP b) (hbase : 0 < base) (hbase1 : base ≤ 9223372036854775807) : Ev (fun k => I1simple.f k l a b base) (tri (simR l a b base)) := by
  unfold I1simple.f
  have h := sim_l0 l hf hday a b base ha hb hbase hbase1 l.length 0 (by omega) 0 ⟨Nat.pow_pos (by decide), one_lt (by decide)⟩
  rw [tri_zero, Rat.zero_add] at h
  exact h
def argsErr (c : Int) (p : Rat) (a b base every : Int) : Int :=
  if c = 0 then (if isDayP a ∧ isDayP b ∧ (base = 360 ∨ base = 365) ∧ 1 ≤ every then (if b < a then 15 else if sign p < 0 then 7 else 0) else 1) else c
theorem check_bad (a b : Int) (x : Bool) (y z : ByteArray) : Ev (fun k => I1check.j0 k a b true x y z) 1 :=
  Ev.succ (h := fun _ => some 1) (fun k => by simp only [I1check.j0]; exact if_pos trivial) (Ev.of fun _ => rfl)
theorem check_j0 (p : T3) (hp : sz p) (a b every : Int) : Ev (fun k => I1check.j0 k a b (decide (every < 1)) p.1 p.2.1 p.2.2) (if 1 ≤ every then (if b < a then 15 else if sign (val3 p) < 0 then 7 else 0) else 1) := by
  by_cases h : every < 1
  · rw [decide_eq_true h, if_neg (by omega)]
    exact check_bad _ _ _ _ _
  · rw [decide_eq_false h, if_pos (by omega)]
    by_cases h2 : b < a
    · rw [if_pos h2]
      exact Ev.succ (h := fun _ => some 15) (fun k => by simp only [I1check.j0]; exact (if_neg (by decide)).trans (if_pos h2)) (Ev.of fun _ => rfl)
    · rw [if_neg h2]
      refine Ev.succ (h := fun k => (Q1Sign.f k p.1 p.2.1 p.2.2).bind fun t => if t < 0 then some 7 else some 0) (fun k => by simp only [I1check.j0]; exact (if_neg (by decide)).trans (if_neg h2)) (Ev.bind (Sign_ev p hp) ?_)
      by_cases h3 : sign (val3 p) < 0
      · simp only [if_pos h3]; exact Ev.of fun _ => rfl
      · simp only [if_neg h3]; exact Ev.of fun _ => rfl
theorem check_ev (p : T3) (hp : sz p) (l : List Stp) (hl : l.length ≤ 64 → ∀ x ∈ l, sz (t3 x.f1)) (a b base every : Int) : Ev (fun k => I1check.f k p.1 p.2.1 p.2.2 l a b base every) (argsErr (chkAll l) (val3 p) a b base every) := by
  unfold I1check.f argsErr
  refine Ev.bind (Check_ev l hl) ?_
  by_cases h : chkAll l = 0
  · simp only [if_pos h]
    by_cases ha : isDayP a
    · refine Ev.pure (isDay_t ha) ?_
      simp only [if_true]
      by_cases hb : isDayP b
      · refine Ev.pure (isDay_t hb) ?_
        simp only [if_true]
        by_cases h1 : base = 360
        · simp only [if_pos h1]
          refine (check_j0 p hp a b every).eq ?_
          by_cases he : 1 ≤ every
          · rw [if_pos he]; exact (if_pos ⟨ha, hb, Or.inl h1, he⟩).symm
          · rw [if_neg he]; exact (if_neg (fun e => he e.2.2.2)).symm
        · simp only [if_neg h1]
          by_cases h2 : base = 365
          · simp only [if_pos h2]
            refine (check_j0 p hp a b every).eq ?_
            by_cases he : 1 ≤ every
            · rw [if_pos he]; exact (if_pos ⟨ha, hb, Or.inr h2, he⟩).symm
            · rw [if_neg he]; exact (if_neg (fun e => he e.2.2.2)).symm
          · simp only [if_neg h2]
            exact (check_bad _ _ _ _ _).eq (if_neg (fun e => e.2.2.1.elim h1 h2)).symm
      · refine Ev.pure (isDay_f hb) ?_
        simp only [Bool.false_eq_true, if_false]
        exact (check_bad _ _ _ _ _).eq (if_neg (fun e => hb e.2.1)).symm
    · refine Ev.pure (isDay_f ha) ?_
      simp only [Bool.false_eq_true, if_false]
      exact (check_bad _ _ _ _ _).eq (if_neg (fun e => ha e.1)).symm
  · simp only [if_neg h]
    exact Ev.of fun _ => rfl
def tri4 (q : Rat) (e : Int) : Bool × ByteArray × ByteArray × Int := ((tri q).1, (tri q).2.1, (tri q).2.2, e)
theorem tri4_zero (e : Int) : tri4 0 e = (false, ⟨#[]⟩, ⟨#[]⟩, e) := by unfold tri4; rw [tri_zero]
theorem argsErr_zero {c : Int} {p : Rat} {a b base every : Int} (h : argsErr c p a b base every = 0) : c = 0 ∧ isDayP a ∧ isDayP b ∧ (base = 360 ∨ base = 365) ∧ 1 ≤ every ∧ a ≤ b ∧ ¬ sign p < 0 := by
  unfold argsErr at h
  by_cases hc : c = 0
  · rw [if_pos hc] at h
    by_cases hd : isDayP a ∧ isDayP b ∧ (base = 360 ∨ base = 365) ∧ 1 ≤ every
    · rw [if_pos hd] at h
      by_cases hb : b < a
      · rw [if_pos hb] at h; exact absurd h (by decide)
      · rw [if_neg hb] at h
        by_cases hs : sign p < 0
        · rw [if_pos hs] at h; exact absurd h (by decide)
        · exact ⟨hc, hd.1, hd.2.1, hd.2.2.1, hd.2.2.2, by omega, hs⟩
    · rw [if_neg hd] at h; exact absurd h (by decide)
  · rw [if_neg hc] at h; exact absurd h hc
theorem chkAll_days {l : List Stp} (h : chkAll l = 0) : l.length ≤ 64 ∧ Asc (stOf l) ∧ ∀ x ∈ l, isDayP x.f0 ∧ ¬ sign (rv x) < 0 := by
  unfold chkAll at h
  by_cases hl : l.length > 64
  · rw [if_pos hl] at h; exact absurd h (by decide)
  · rw [if_neg hl] at h
    have := chk_asc l none h
    exact ⟨by omega, this.1, this.2.1⟩
theorem segSum_bd : ∀ (l : List Stp) (a b : Int), (∀ x ∈ l, Bd 25 (rv x) ∧ isDayP x.f0) → isDayP a → isDayP b → Bd (l.length * 40 + 1) (segSum (stOf l) a b)
  | [], _, _, _, _, _ => ⟨Nat.pow_pos (by decide), one_lt (by decide)⟩
  | [x], a, b, h, ha, hb => by
    have hx := h x (by simp)
    unfold isDayP at ha hb
    have hd := hx.2
    unfold isDayP at hd
    have b1 := hx.1.mul (bd_int (n := posI (b - max a x.f0)) (by unfold posI; split <;> omega) (by unfold posI; split <;> omega))
    exact b1.up (by simp)
  | x :: y :: t, a, b, h, ha, hb => by
    have hx := h x (by simp)
    have hy := h y (by simp)
    have ih := segSum_bd (y :: t) a b (fun z hz => h z (List.mem_cons_of_mem _ hz)) ha hb
    unfold isDayP at ha hb
    have hd := hx.2
    have hd2 := hy.2
    unfold isDayP at hd hd2
    have b1 := hx.1.mul (bd_int (n := posI (min b y.f0 - max a x.f0)) (by unfold posI; split <;> omega) (by unfold posI; split <;> omega))
    show Bd _ (rv x * (posI (min b y.f0 - max a x.f0) : Int) + segSum (stOf (y :: t)) a b)
    exact (b1.add ih).up (by simp only [List.length_cons]; omega)
theorem simR_bd (l : List Stp) (hf : Fine l) (hday : ∀ x ∈ l, isDayP x.f0) (a b base : Int) (ha : isDayP a) (hb : isDayP b) (hbase : 0 < base) (hbase1 : base ≤ 9223372036854775807) : Bd 2569 (simR l a b base) := by
  have h1 := segSum_bd l a b (fun x hx => ⟨(hf.2 x hx).2, hday x hx⟩) ha hb
  have h2 := h1.div (bd_int (n := base) (by omega) hbase1) (fun e => by have := Rat.intCast_eq_zero_iff.1 e; omega)
  exact h2.up (by have := hf.1; omega)
def simpleR (p : Rat) (l : List Stp) (a b base : Int) : Bool × ByteArray × ByteArray × Int :=
  if argsErr (chkAll l) p a b base 1 = 0 then tri4 (p * simR l a b base) 0 else tri4 0 (argsErr (chkAll l) p a b base 1)
theorem Simple_ev (p : T3) (hp : sz p) (l : List Stp) (hf : l.length ≤ 64 → Fine l) (a b base : Int) : Ev (fun k => I1Simple.f k p.1 p.2.1 p.2.2 l a b base) (simpleR (val3 p) l a b base) := by
  unfold I1Simple.f simpleR
  refine Ev.bind (check_ev p hp l (fun h => (hf h).sz h) a b base 1) ?_
  by_cases h : argsErr (chkAll l) (val3 p) a b base 1 = 0
  · simp only [if_pos h]
    obtain ⟨h1, ha, hb, h2, _, _, _⟩ := argsErr_zero h
    obtain ⟨h3, _, h4⟩ := chkAll_days h1
    have hl := hf h3
    have hd : ∀ x ∈ l, isDayP x.f0 := fun x hx => (h4 x hx).1
    refine Ev.bind (simple_ev l hl hd a b base ha hb (by omega) (by omega)) ?_
    have e1 := Mul_ev p (tri (simR l a b base)) hp (sz_tri (simR_bd l hl hd a b base ha hb (by omega) (by omega)) (by decide))
    rw [val_tri] at e1
    exact Ev.bind e1 (Ev.of fun _ => rfl)
  · simp only [if_neg h]
    rw [tri4_zero]
    exact Ev.of fun _ => rfl
def compL (l : List Stp) (til base every : Int) : Nat → Int → Rat → Rat
  | 0, _, s => s
  | n + 1, day, s => if day < til then compL l til base every n (day + every) (s + s * simR l day (min (day + every) til) base) else s
theorem comp_step (s r : Rat) {e f : Nat} (hs : Bd e s) (hr : Bd f r) : Bd (e + (f + 2)) (s + s * r) := by
  have h1 : s + s * r = s * (1 + r) := by rw [Rat.mul_add, Rat.mul_one]
  rw [h1]
  have h2 : Bd 1 (1 : Rat) := ⟨one_lt (by decide), one_lt (by decide)⟩
  exact (hs.mul (h2.add hr)).up (by omega)
theorem comp_l0 (l : List Stp) (hf : Fine l) (hday : ∀ x ∈ l, isDayP x.f0) (p : T3) (hp : sz p) (til base every : Int) (hto : isDayP til) (hbase : 0 < base) (hbase1 : base ≤ 9223372036854775807) (he : 1 ≤ every) (he1 : every ≤ 1048577) :
    ∀ (n : Nat) (day : Int) (s : Rat) (e : Nat), 0 ≤ day → day ≤ 2097154 → til - day ≤ n * every → Bd e s → e + n * 2571 ≤ 274877900000 →
      Ev (fun k => I1Compound.l0 k l til base every day p.1 p.2.1 p.2.2 (tri s).1 (tri s).2.1 (tri s).2.2) (tri4 (compL l til base every n day s - val3 p) 0)
  | n, day, s, e, h0, h1, hn, hs, hE => by
    by_cases c : day < til
    · cases n with
      | zero => simp at hn; omega
      | succ n =>
        have hda : isDayP day := ⟨h0, by have := hto.2; omega⟩
        have hmin : isDayP (min (day + every) til) := by unfold isDayP at hto ⊢; omega
        have hr := simR_bd l hf hday day (min (day + every) til) base hda hmin hbase hbase1
        have hw : wrap64 (day + every) = day + every := w64 (by omega) (by have := hda.2; omega)
        have hEn : (n + 1) * 2571 = n * 2571 + 2571 := Nat.succ_mul n 2571
        have hne : ((n + 1 : Nat) : Int) * every = n * every + every := by rw [Int.natCast_add, Int.add_mul]; omega
        rw [hne] at hn
        have ss : sz (tri s) := sz_tri hs (by omega)
        have ih := comp_l0 l hf hday p hp til base every hto hbase hbase1 he he1 n (day + every) (s + s * simR l day (min (day + every) til) base) (e + 2571) (by omega) (by have := hda.2; omega) (by omega) (comp_step s _ hs hr) (by omega)
        show Ev _ (tri4 ((if day < til then compL l til base every n (day + every) (s + s * simR l day (min (day + every) til) base) else s) - val3 p) 0)
        rw [if_pos c]
        refine Ev.succ (h := fun k => (I1simple.f k l day (min (day + every) til) base).bind fun bt826 => ((Q1Multiply.f k (tri s).1 (tri s).2.1 (tri s).2.2 bt826.1 bt826.2.1 bt826.2.2).bind fun bt829 => ((Q1Add.f k (tri s).1 (tri s).2.1 (tri s).2.2 bt829.1 bt829.2.1 bt829.2.2).bind fun bt832 => (I1Compound.l0 k l til base every (day + every) p.1 p.2.1 p.2.2 bt832.1 bt832.2.1 bt832.2.2)))) (fun k => ?_) ?_
        · simp only [I1Compound.l0]
          rw [if_pos c, hw, mn_eq]
        · have e1 := Mul_ev (tri s) (tri (simR l day (min (day + every) til) base)) ss (sz_tri hr (by decide))
          rw [val_tri, val_tri] at e1
          have e2 := Add_ev' (tri s) (tri (s * simR l day (min (day + every) til) base)) ss (sz_tri (hs.mul hr) (by omega))
          rw [val_tri, val_tri] at e2
          exact Ev.bind (simple_ev l hf hday day _ base hda hmin hbase hbase1) (Ev.bind e1 (Ev.bind e2 ih))
    · have e1 := Sub_ev (tri s) p (sz_tri hs (by omega)) hp
      rw [val_tri] at e1
      have e3 : compL l til base every n day s = s := by
        cases n with
        | zero => rfl
        | succ n => exact if_neg c
      rw [e3]
      exact Ev.succ (h := fun k => (Q1Subtract.f k (tri s).1 (tri s).2.1 (tri s).2.2 p.1 p.2.1 p.2.2).bind fun bt835 => (some (bt835.1, bt835.2.1, bt835.2.2, 0))) (fun k => by simp only [I1Compound.l0]; exact if_neg c) (Ev.bind e1 (Ev.of fun _ => rfl))
theorem val_zero : val3 (false, ⟨#[]⟩, ⟨#[]⟩) = 0 := by rw [← tri_zero, val_tri]
def compoundR (p : Rat) (l : List Stp) (a b base every : Int) : Bool × ByteArray × ByteArray × Int :=
  if argsErr (chkAll l) p a b base every = 0 then (if (b - a + min every 1048577 - 1) / min every 1048577 > 64 then tri4 0 2 else tri4 (compL l b base (min every 1048577) 64 a p - p) 0) else tri4 0 (argsErr (chkAll l) p a b base every)
theorem Compound_ev (p : T3) (hp : sz p) (l : List Stp) (hf : l.length ≤ 64 → Fine l) (a b base every : Int) {e : Nat} (hb0 : Bd e (val3 p)) (hE : e ≤ 270000000000) : Ev (fun k => I1Compound.f k p.1 p.2.1 p.2.2 l a b base every) (compoundR (val3 p) l a b base every) := by
  unfold I1Compound.f compoundR
  refine Ev.bind (check_ev p hp l (fun h => (hf h).sz h) a b base every) ?_
  by_cases h : argsErr (chkAll l) (val3 p) a b base every = 0
  · simp only [if_pos h]
    obtain ⟨h1, ha, hb, h2, h5, h6, _⟩ := argsErr_zero h
    obtain ⟨h3, _, h4⟩ := chkAll_days h1
    have hl := hf h3
    have hd : ∀ x ∈ l, isDayP x.f0 := fun x hx => (h4 x hx).1
    rw [mn_eq]
    have v1 : 1 ≤ min every 1048577 := by omega
    have v2 : min every 1048577 ≤ 1048577 := by omega
    generalize min every 1048577 = v at v1 v2 ⊢
    have ha' := ha; have hb' := hb
    unfold isDayP at ha' hb'
    simp only [if_neg (show ¬ v = 0 by omega)]
    have ew : wrap64 (Int.tdiv (wrap64 ((wrap64 ((wrap64 (b - a)) + v)) - 1)) v) = (b - a + v - 1) / v := by
      rw [w64 (x := b - a) (by omega) (by omega), w64 (x := b - a + v) (by omega) (by omega), w64 (x := b - a + v - 1) (by omega) (by omega), Int.tdiv_eq_ediv_of_nonneg (by omega)]
      have g0 : 0 ≤ (b - a + v - 1) / v := Int.ediv_nonneg (by omega) (by omega)
      have g1 : (b - a + v - 1) / v ≤ b - a + v - 1 := Int.ediv_le_self _ (by omega)
      exact w64 (by omega) (by omega)
    rw [ew]
    by_cases c : (b - a + v - 1) / v > 64
    · simp only [if_pos c]
      rw [tri4_zero]
      exact Ev.of fun _ => rfl
    · simp only [if_neg c]
      have e1 := Add_ev' p (false, ⟨#[]⟩, ⟨#[]⟩) hp ⟨Nat.zero_le _, Nat.zero_le _⟩
      rw [val_zero, Rat.add_zero] at e1
      refine Ev.bind e1 ?_
      have hdiv : b - a ≤ ((64 : Nat) : Int) * v := by
        have q1 := Int.lt_mul_ediv_self_add (x := b - a + v - 1) (k := v) (by omega)
        have q2 : v * ((b - a + v - 1) / v) ≤ v * 64 := Int.mul_le_mul_of_nonneg_left (by omega) (by omega)
        rw [Int.mul_comm v 64] at q2
        omega
      exact comp_l0 l hl hd p hp b base v hb (by omega) (by omega) v1 v2 64 a (val3 p) e (by omega) (by omega) hdiv hb0 (by omega)
  · simp only [if_neg h]
    rw [tri4_zero]
    exact Ev.of fun _ => rfl
theorem interval_bad (a b : Int) (x : Bool) (y z : ByteArray) : Ev (fun k => R1interval.j0 k a b true x y z) 1 :=
  Ev.succ (h := fun _ => some 1) (fun k => by simp only [R1interval.j0]; exact if_pos trivial) (Ev.of fun _ => rfl)
theorem interval_j0 (p : T3) (hp : sz p) (a b every : Int) : Ev (fun k => R1interval.j0 k a b (decide (every < 1)) p.1 p.2.1 p.2.2) (if 1 ≤ every then (if b < a then 15 else if sign (val3 p) < 0 then 7 else 0) else 1) := by
  by_cases h : every < 1
  · rw [decide_eq_true h, if_neg (by omega)]
    exact interval_bad _ _ _ _ _
  · rw [decide_eq_false h, if_pos (by omega)]
    by_cases h2 : b < a
    · rw [if_pos h2]
      exact Ev.succ (h := fun _ => some 15) (fun k => by simp only [R1interval.j0]; exact (if_neg (by decide)).trans (if_pos h2)) (Ev.of fun _ => rfl)
    · rw [if_neg h2]
      refine Ev.succ (h := fun k => (R1Sign.f k p.1 p.2.1 p.2.2).bind fun t => if t < 0 then some 7 else some 0) (fun k => by simp only [R1interval.j0]; exact (if_neg (by decide)).trans (if_neg h2)) (Ev.bind (rSign_ev p hp) ?_)
      by_cases h3 : sign (val3 p) < 0
      · simp only [if_pos h3]; exact Ev.of fun _ => rfl
      · simp only [if_neg h3]; exact Ev.of fun _ => rfl
theorem interval_ev (p : T3) (hp : sz p) (l : List Stp) (hl : l.length ≤ 64 → ∀ x ∈ l, sz (t3 x.f1)) (a b base every : Int) : Ev (fun k => R1interval.f k p.1 p.2.1 p.2.2 l a b base every) (argsErr (chkAll l) (val3 p) a b base every) := by
  unfold R1interval.f argsErr
  refine Ev.bind (CheckSteps_ev l hl) ?_
  by_cases h : chkAll l = 0
  · simp only [if_pos h]
    by_cases ha : isDayP a
    · refine Ev.pure (IsDay_t ha) ?_
      simp only [if_true]
      by_cases hb : isDayP b
      · refine Ev.pure (IsDay_t hb) ?_
        simp only [if_true]
        by_cases h1 : base = 360
        · simp only [if_pos h1]
          refine (interval_j0 p hp a b every).eq ?_
          by_cases he : 1 ≤ every
          · rw [if_pos he]; exact (if_pos ⟨ha, hb, Or.inl h1, he⟩).symm
          · rw [if_neg he]; exact (if_neg (fun e => he e.2.2.2)).symm
        · simp only [if_neg h1]
          by_cases h2 : base = 365
          · simp only [if_pos h2]
            refine (interval_j0 p hp a b every).eq ?_
            by_cases he : 1 ≤ every
            · rw [if_pos he]; exact (if_pos ⟨ha, hb, Or.inr h2, he⟩).symm
            · rw [if_neg he]; exact (if_neg (fun e => he e.2.2.2)).symm
          · simp only [if_neg h2]
            exact (interval_bad _ _ _ _ _).eq (if_neg (fun e => e.2.2.1.elim h1 h2)).symm
      · refine Ev.pure (IsDay_f hb) ?_
        simp only [Bool.false_eq_true, if_false]
        exact (interval_bad _ _ _ _ _).eq (if_neg (fun e => hb e.2.1)).symm
    · refine Ev.pure (IsDay_f ha) ?_
      simp only [Bool.false_eq_true, if_false]
      exact (interval_bad _ _ _ _ _).eq (if_neg (fun e => ha e.1)).symm
  · simp only [if_neg h]
    exact Ev.of fun _ => rfl
def rateS : List Stp → Int → Rat → Rat
  | [], _, q => q
  | x :: t, d, q => if x.f0 ≤ d then rateS t d (rv x) else q
theorem rateS_at : ∀ (l : List Stp) (x : Stp) (d : Int) (q : Rat), rateS (x :: l) d q = if x.f0 ≤ d then rateAt (stOf (x :: l)) d else q
  | [], x, d, q => by
    show (if x.f0 ≤ d then rv x else q) = if x.f0 ≤ d then (if x.f0 ≤ d then rv x else 0) else q
    by_cases h : x.f0 ≤ d
    · rw [if_pos h, if_pos h, if_pos h]
    · rw [if_neg h, if_neg h]
  | y :: t, x, d, q => by
    show (if x.f0 ≤ d then rateS (y :: t) d (rv x) else q) = if x.f0 ≤ d then (if x.f0 ≤ d then (if y.f0 ≤ d then rateAt (stOf (y :: t)) d else rv x) else 0) else q
    by_cases h : x.f0 ≤ d
    · rw [if_pos h, if_pos h, if_pos h, rateS_at t y d (rv x)]
    · rw [if_neg h, if_neg h]
theorem rateS_zero (l : List Stp) (d : Int) : rateS l d 0 = rateAt (stOf l) d := by
  cases l with
  | nil => rfl
  | cons x t =>
    rw [rateS_at]
    by_cases h : x.f0 ≤ d
    · rw [if_pos h]
    · rw [if_neg h]
      cases t with
      | nil => exact (if_neg h).symm
      | cons y t' => exact (if_neg h).symm
theorem rate_l0 (l : List Stp) (hf : Fine l) (day : Int) : ∀ d i, i + d = l.length → ∀ q : Rat, Ev (fun k => R1rate.l0 k l day (i : Int) (tri q).1 (tri q).2.1 (tri q).2.2) (tri (rateS (l.drop i) day q))
  | 0, i, h, q => by
    rw [List.drop_eq_nil_of_le (by omega)]
    exact Ev.succ (h := fun _ => some (tri q)) (fun k => by simp only [R1rate.l0]; exact if_neg (by omega)) (Ev.of fun _ => rfl)
  | d + 1, i, h, q => by
    have hi : i < l.length := by omega
    have hl := hf.1
    have h1 : (i : Int) < (l.length : Int) := by omega
    have hx := hf.2 _ (getD_mem hi)
    have hr := rd_at l i
    have hn : wrap64 ((i : Int) + 1) = ((i + 1 : Nat) : Int) := ix_succ (by omega)
    have ih := rate_l0 l hf day d (i + 1) (by omega)
    rw [drop_at hi]
    generalize l.getD i z0 = x at hr hx ⊢
    show Ev _ (tri (if x.f0 ≤ day then rateS (l.drop (i + 1)) day (rv x) else q))
    by_cases c : x.f0 ≤ day
    · rw [if_pos c]
      refine Ev.succ (h := fun k => (R1Fix.f k x.f1.f0 x.f1.f1 x.f1.f2).bind fun bt862 => (R1rate.l0 k l day ((i + 1 : Nat) : Int) bt862.1 bt862.2.1 bt862.2.2)) (fun k => ?_) (Ev.bind (Fix_ev (t3 x.f1) hx.1) (ih (rv x)))
      simp only [R1rate.l0]
      rw [if_pos h1, if_pos (Int.natCast_nonneg i), hr, if_pos c, hn]
    · rw [if_neg c]
      refine Ev.succ (h := fun _ => some (tri q)) (fun k => ?_) (Ev.of fun _ => rfl)
      simp only [R1rate.l0]
      rw [if_pos h1, if_pos (Int.natCast_nonneg i), hr, if_neg c]
theorem rate_ev (l : List Stp) (hf : Fine l) (day : Int) : Ev (fun k => R1rate.f k l day) (tri (rateAt (stOf l) day)) := by
  unfold R1rate.f
  have h := rate_l0 l hf day l.length 0 (by omega) 0
  rw [tri_zero, List.drop_zero, rateS_zero] at h
  exact h
theorem rateAt_bd : ∀ (l : List Stp) (d : Int), (∀ x ∈ l, Bd 25 (rv x)) → Bd 25 (rateAt (stOf l) d)
  | [], _, _ => ⟨Nat.pow_pos (by decide), one_lt (by decide)⟩
  | [x], d, h => by
    show Bd 25 (if x.f0 ≤ d then rv x else 0)
    split
    · exact h x (by simp)
    · exact ⟨Nat.pow_pos (by decide), one_lt (by decide)⟩
  | x :: y :: t, d, h => by
    show Bd 25 (if x.f0 ≤ d then (if y.f0 ≤ d then rateAt (stOf (y :: t)) d else rv x) else 0)
    split
    · split
      · exact rateAt_bd (y :: t) d (fun z hz => h z (List.mem_cons_of_mem _ hz))
      · exact h x (by simp)
    · exact ⟨Nat.pow_pos (by decide), one_lt (by decide)⟩
def endS (a : Int) : List Stp → Int → Int
  | [], e => e
  | x :: t, e => endS a t (if x.f0 > a ∧ x.f0 < e then x.f0 else e)
theorem endS_spec (a : Int) : ∀ (l : List Stp) (e : Int), a < e → a < endS a l e ∧ endS a l e ≤ e ∧ ∀ x ∈ l, ¬ (a < x.f0 ∧ x.f0 < endS a l e)
  | [], e, h => ⟨h, Int.le_refl _, fun _ hx => by cases hx⟩
  | x :: t, e, h => by
    show a < endS a t (if x.f0 > a ∧ x.f0 < e then x.f0 else e) ∧ endS a t (if x.f0 > a ∧ x.f0 < e then x.f0 else e) ≤ e ∧ ∀ y ∈ x :: t, ¬ (a < y.f0 ∧ y.f0 < endS a t (if x.f0 > a ∧ x.f0 < e then x.f0 else e))
    by_cases c : x.f0 > a ∧ x.f0 < e
    · rw [if_pos c]
      obtain ⟨h1, h2, h3⟩ := endS_spec a t x.f0 c.1
      refine ⟨h1, by omega, fun y hy => ?_⟩
      rcases List.mem_cons.1 hy with rfl | hy
      · omega
      · exact h3 y hy
    · rw [if_neg c]
      obtain ⟨h1, h2, h3⟩ := endS_spec a t e h
      refine ⟨h1, h2, fun y hy => ?_⟩
      rcases List.mem_cons.1 hy with rfl | hy
      · omega
      · exact h3 y hy
theorem acc_l1 (l : List Stp) (hlen : l.length ≤ 64) (a b : Int) (s : T3) (R : T3) : ∀ d i, i + d = l.length → ∀ e : Int,
    Ev (fun k => (R1rate.f k l a).bind fun bt870 => ((R1Int.f k (wrap64 (endS a (l.drop i) e - a))).bind fun bt873 => ((R1Times.f k bt870.1 bt870.2.1 bt870.2.2 bt873.1 bt873.2.1 bt873.2.2).bind fun bt876 => ((R1Plus.f k s.1 s.2.1 s.2.2 bt876.1 bt876.2.1 bt876.2.2).bind fun bt879 => (R1accrued.l0 k l (endS a (l.drop i) e) b bt879.1 bt879.2.1 bt879.2.2))))) R →
    Ev (fun k => R1accrued.l1 k l a b e (i : Int) s.1 s.2.1 s.2.2) R
  | 0, i, h, e, hR => by
    rw [List.drop_eq_nil_of_le (by omega)] at hR
    exact Ev.succ (fun k => by simp only [R1accrued.l1]; exact if_neg (by omega)) hR
  | d + 1, i, h, e, hR => by
    have hi : i < l.length := by omega
    have h1 : (i : Int) < (l.length : Int) := by omega
    have hr := rd_at l i
    have hn : wrap64 ((i : Int) + 1) = ((i + 1 : Nat) : Int) := ix_succ (by omega)
    rw [drop_at hi] at hR
    generalize l.getD i z0 = x at hr hR
    have ih := acc_l1 l hlen a b s R d (i + 1) (by omega) (if x.f0 > a ∧ x.f0 < e then x.f0 else e) hR
    refine Ev.succ (fun k => ?_) ih
    simp only [R1accrued.l1]
    rw [if_pos h1, if_pos (Int.natCast_nonneg i), hr, hn]
    by_cases c1 : x.f0 > a
    · rw [if_pos c1]
      by_cases c2 : x.f0 < e
      · rw [if_pos c2, if_pos ⟨c1, c2⟩]
      · rw [if_neg c2, if_neg (fun h => c2 h.2)]
    · rw [if_neg c1, if_neg (fun h => c1 h.1)]
theorem acc_l0 (l : List Stp) (hf : Fine l) (hday : ∀ x ∈ l, isDayP x.f0) (hs : Asc (stOf l)) (a0 b : Int) (h0 : isDayP a0) (hb : isDayP b) : ∀ (n : Nat) (m : Nat), a0 + m + n = b →
    Ev (fun k => R1accrued.l0 k l (a0 + m) b (tri (segSum (stOf l) a0 (a0 + m))).1 (tri (segSum (stOf l) a0 (a0 + m))).2.1 (tri (segSum (stOf l) a0 (a0 + m))).2.2) (tri (segSum (stOf l) a0 b)) := by
  intro n
  induction n using Nat.strongRecOn with
  | _ n IH =>
    intro m h
    by_cases hn : n = 0
    · subst hn
      have e : a0 + m = b := by omega
      rw [e]
      exact Ev.succ (h := fun _ => some (tri (segSum (stOf l) a0 b))) (fun k => by simp only [R1accrued.l0]; exact if_neg (by omega)) (Ev.of fun _ => rfl)
    · have hlt : a0 + m < b := by omega
      have h0' := h0; have hb' := hb
      unfold isDayP at h0' hb'
      have hda : isDayP (a0 + m) := by unfold isDayP; omega
      have bs := segSum_bd l a0 (a0 + m) (fun x hx => ⟨(hf.2 x hx).2, hday x hx⟩) h0 hda
      have hl := hf.1
      refine Ev.succ (h := fun k => R1accrued.l1 k l (a0 + m) b b ((0 : Nat) : Int) (tri (segSum (stOf l) a0 (a0 + m))).1 (tri (segSum (stOf l) a0 (a0 + m))).2.1 (tri (segSum (stOf l) a0 (a0 + m))).2.2) (fun k => by simp only [R1accrued.l0]; exact if_pos hlt) ?_
      refine acc_l1 l hl (a0 + m) b (tri (segSum (stOf l) a0 (a0 + m))) _ l.length 0 (by omega) b ?_
      rw [List.drop_zero]
      obtain ⟨e1, e2, e3⟩ := endS_spec (a0 + m) l b hlt
      generalize endS (a0 + m) l b = e at e1 e2 e3 ⊢
      obtain ⟨j, hj⟩ : ∃ j : Nat, e = a0 + ((m + j : Nat) : Int) := ⟨(e - (a0 + m)).toNat, by omega⟩
      have hj0 : 0 < j := by omega
      have hw : wrap64 (e - (a0 + m)) = (j : Int) := by rw [w64 (by omega) (by omega)]; omega
      rw [hw]
      have br := rateAt_bd l (a0 + m) (fun x hx => (hf.2 x hx).2)
      have bi : Bd 8 ((j : Int) : Rat) := bd_int (by omega) (by omega)
      have flat : dayS (stOf l) (a0 + m) j = rateAt (stOf l) (a0 + m) * ((j : Int) : Rat) := dayS_flat _ _ _ j (fun i hi => by
        refine rateAt_stays (stOf l) (a0 + m) (a0 + m + i) hs (by omega) ?_
        intro p hp
        obtain ⟨x, hx, rfl⟩ := List.mem_map.1 hp
        have := e3 x hx
        show ¬ (a0 + m < x.f0 ∧ x.f0 ≤ a0 + m + i)
        omega)
      have sums : segSum (stOf l) a0 (a0 + m) + rateAt (stOf l) (a0 + m) * ((j : Int) : Rat) = segSum (stOf l) a0 e := by
        rw [hj, segSum_day _ _ hs, segSum_day _ _ hs, dayS_add, flat]
      have t1 := Times_ev _ _ (br.up (show 25 ≤ 3000 by decide)) (bi.up (show 8 ≤ 3000 by decide)) (by decide)
      have p1 := Plus_ev _ _ (bs.up (show l.length * 40 + 1 ≤ 3000 by omega)) ((br.mul bi).up (show 25 + 8 ≤ 3000 by decide)) (by decide)
      rw [sums] at p1
      have ih := IH (n - j) (by omega) (m + j) (by omega)
      rw [← hj] at ih
      exact Ev.bind (rate_ev l hf (a0 + m)) (Ev.bind (rInt_ev (j : Int) (by omega) (by omega)) (Ev.bind t1 (Ev.bind p1 ih)))
theorem accrued_ev (l : List Stp) (hf : Fine l) (hday : ∀ x ∈ l, isDayP x.f0) (hs : Asc (stOf l)) (a b : Int) (ha : isDayP a) (hb : isDayP b) (hab : a ≤ b) : Ev (fun k => R1accrued.f k l a b) (tri (segSum (stOf l) a b)) := by
  unfold R1accrued.f
  have h := acc_l0 l hf hday hs a b ha hb (b - a).toNat 0 (by omega)
  have e0 : segSum (stOf l) a (a + ((0 : Nat) : Int)) = 0 := segSum_day (stOf l) a hs 0
  rw [e0, tri_zero] at h
  rw [show a + ((0 : Nat) : Int) = a by omega] at h
  exact h
theorem Ratio_ev (a b : Int) (h0 : -9223372036854775808 ≤ a) (h1 : a ≤ 9223372036854775807) (hb : 0 < b) (hb1 : b ≤ 9223372036854775807) : Ev (fun k => L0Ratio.f k a b) (tri (mkRat a b.toNat)) := by
  unfold L0Ratio.f
  exact Ev.bind (Fraction_ev a b h0 h1 hb hb1) (Ev.of fun _ => rfl)
theorem Whole_ev (a : Int) (h0 : -9223372036854775808 ≤ a) (h1 : a ≤ 9223372036854775807) : Ev (fun k => L0Whole.f k a) (tri (a : Rat)) := by
  unfold L0Whole.f
  exact Ev.bind (rInt_ev a h0 h1) (Ev.of fun _ => rfl)
def fewT (t : T3) : Prop := t.2.1.size ≤ 24 ∧ t.2.2.size ≤ 24
instance (t : T3) : Decidable (fewT t) := by unfold fewT; infer_instance
theorem Few_ev (t : T3) : L0Few.f t.1 t.2.1 t.2.2 = some (decide (fewT t)) := by
  unfold L0Few.f
  by_cases h : t.2.1.size ≤ 24
  · rw [if_pos (by omega)]
    by_cases h2 : t.2.2.size ≤ 24
    · rw [decide_eq_true (show (t.2.2.size : Int) ≤ 24 by omega), decide_eq_true (show fewT t from ⟨h, h2⟩)]
    · rw [decide_eq_false (show ¬ (t.2.2.size : Int) ≤ 24 by omega), decide_eq_false (show ¬ fewT t from fun e => h2 e.2)]
  · rw [if_neg (by omega), decide_eq_false (show ¬ fewT t from fun e => h e.1)]
theorem few_l0 (l : List Stp) (hlen : l.length ≤ 10) : ∀ d i, i + d = l.length → Ev (fun k => L6few.l0 k l (l.length : Int) (i : Int)) (decide (∀ x ∈ l.drop i, fewT (t3 x.f1)))
  | 0, i, h => by
    rw [List.drop_eq_nil_of_le (by omega)]
    exact (Ev.succ (h := fun _ => some true) (fun k => by simp only [L6few.l0]; exact if_neg (by omega)) (Ev.of fun _ => rfl)).eq (dec_true (fun _ h => by cases h))
  | d + 1, i, h => by
    have hi : i < l.length := by omega
    have h1 : (i : Int) < (l.length : Int) := by omega
    have hr := rd_at l i
    have hn : wrap64 ((i : Int) + 1) = ((i + 1 : Nat) : Int) := ix_succ (by omega)
    have ih := few_l0 l hlen d (i + 1) (by omega)
    rw [drop_at hi]
    generalize l.getD i z0 = x at hr ⊢
    have hF := Few_ev (t3 x.f1)
    by_cases c : fewT (t3 x.f1)
    · rw [decide_eq_true c] at hF
      refine (Ev.succ (h := fun k => L6few.l0 k l (l.length : Int) ((i + 1 : Nat) : Int)) (fun k => ?_) ih).eq ?_
      · simp only [L6few.l0]
        rw [if_pos h1, if_pos (Int.natCast_nonneg i), if_pos h1, hr, hn]
        show (L0Few.f (t3 x.f1).1 (t3 x.f1).2.1 (t3 x.f1).2.2).bind _ = _
        rw [hF, Option.bind_some, if_pos rfl]
      · exact decide_eq_decide.2 ⟨fun h y hy => (List.mem_cons.1 hy).elim (fun e => e ▸ c) (h y), fun h y hy => h y (List.mem_cons_of_mem _ hy)⟩
    · rw [decide_eq_false c] at hF
      refine (Ev.succ (h := fun _ => some false) (fun k => ?_) (Ev.of fun _ => rfl)).eq (dec_false (fun h => c (h x List.mem_cons_self)))
      simp only [L6few.l0]
      rw [if_pos h1, if_pos (Int.natCast_nonneg i), if_pos h1, hr]
      show (L0Few.f (t3 x.f1).1 (t3 x.f1).2.1 (t3 x.f1).2.2).bind _ = _
      rw [hF, Option.bind_some, if_neg (by decide)]
def fewL (l : List Stp) : Prop := l.length ≤ 10 ∧ ∀ x ∈ l, fewT (t3 x.f1)
instance (l : List Stp) : Decidable (fewL l) := by unfold fewL; infer_instance
theorem few_ev (l : List Stp) : Ev (fun k => L6few.f k l) (decide (fewL l)) := by
  unfold L6few.f
  by_cases h : l.length ≤ 10
  · refine Ev.congr (h := fun k => L6few.l0 k l (l.length : Int) ((0 : Nat) : Int)) (fun k => if_neg (by omega)) ?_
    refine (few_l0 l h l.length 0 (by omega)).eq ?_
    rw [List.drop_zero]
    exact decide_eq_decide.2 ⟨fun e => ⟨h, e⟩, fun e => e.2⟩
  · exact (Ev.of fun _ => if_pos (by omega)).eq (dec_false (fun e => h e.1))
theorem fewT.sz {t : T3} (h : fewT t) : sz t := ⟨Nat.le_trans h.1 (by decide), Nat.le_trans h.2 (by decide)⟩
theorem fewL.fine {l : List Stp} (h : fewL l) : Fine l := ⟨Nat.le_trans h.1 (by decide), fun x hx => ⟨(h.2 x hx).sz, Bd_val (h.2 x hx).1 (h.2 x hx).2⟩⟩
theorem same3 (a b : Rat) (h : a = b) : ((tri a).1 == (tri b).1 && ((tri a).2.1.toList == (tri b).2.1.toList && ((tri a).2.2.toList == (tri b).2.2.toList))) = true := by
  rw [h]
  simp
def exL : List Stp := [⟨0, ⟨(tri (mkRat 1 10)).1, (tri (mkRat 1 10)).2.1, (tri (mkRat 1 10)).2.2⟩⟩]
theorem ex_rv : rv ⟨0, ⟨(tri (mkRat 1 10)).1, (tri (mkRat 1 10)).2.1, (tri (mkRat 1 10)).2.2⟩⟩ = mkRat 1 10 := val_tri _
theorem ex_fine : Fine exL := by
  have hb : Bd 25 (mkRat 1 10) := ⟨by show (mkRat 1 10).num.natAbs < 256 ^ 25; decide, by decide⟩
  refine ⟨by decide, fun x hx => ?_⟩
  rw [List.mem_singleton.1 hx]
  exact ⟨sz_tri hb (by decide), ex_rv.symm ▸ hb⟩
theorem ex_chk : chkAll exL = 0 := by
  show chk none exL = 0
  unfold exL chk
  rw [ex_rv, if_pos (by decide), if_neg (by decide), if_neg (by decide)]
  rfl
theorem ex_st : stOf exL = [(0, mkRat 1 10)] := by
  show [((0 : Int), rv _)] = _
  rw [ex_rv]
theorem ex_sim (a b : Int) : simR exL a b 365 = mkRat 1 10 * ((posI (b - max a 0) : Int) : Rat) / ((365 : Int) : Rat) := by
  unfold simR
  rw [ex_st]
  rfl
theorem ex_simple : simpleR ((36500 : Int) : Rat) exL 10 40 365 = tri4 ((300 : Int) : Rat) 0 := by
  unfold simpleR
  rw [ex_chk, if_pos (by decide), ex_sim]
  exact congrArg (fun q => tri4 q 0) (by decide +kernel)
theorem ex_compound : compoundR ((36500 : Int) : Rat) exL 10 40 365 15 = tri4 (mkRat 21945 73) 0 := by
  have e : compL exL 40 365 15 64 10 ((36500 : Int) : Rat) - ((36500 : Int) : Rat) = mkRat 21945 73 := by
    have h3 : ∀ n s, compL exL 40 365 15 n (10 + 15 + 15) s = s := fun n s => by
      cases n with
      | zero => rfl
      | succ n => exact if_neg (by decide)
    have h1 : ∀ n s, compL exL 40 365 15 (n + 1) 10 s = compL exL 40 365 15 n (10 + 15) (s + s * simR exL 10 (min (10 + 15) 40) 365) := fun n s => if_pos (by decide)
    have h2 : ∀ n s, compL exL 40 365 15 (n + 1) (10 + 15) s = compL exL 40 365 15 n (10 + 15 + 15) (s + s * simR exL (10 + 15) (min (10 + 15 + 15) 40) 365) := fun n s => if_pos (by decide)
    rw [h1, h2, h3, ex_sim, ex_sim]
    decide +kernel
  unfold compoundR
  rw [ex_chk, if_pos (by decide), if_neg (by decide)]
  show tri4 (compL exL 40 365 15 64 10 ((36500 : Int) : Rat) - ((36500 : Int) : Rat)) 0 = _
  rw [e]
theorem awake_ev : Ev (fun k => L6awake.f k) true := by
  unfold L6awake.f
  have hp : sz (tri ((36500 : Int) : Rat)) := sz_tri (bd_int (n := 36500) (by decide) (by decide)) (by decide)
  have s1 := Simple_ev (tri ((36500 : Int) : Rat)) hp exL (fun _ => ex_fine) 10 40 365
  have c1 := Compound_ev (tri ((36500 : Int) : Rat)) hp exL (fun _ => ex_fine) 10 40 365 15 (e := 8) (by rw [val_tri]; exact bd_int (by decide) (by decide)) (by decide)
  rw [val_tri, ex_simple] at s1
  rw [val_tri, ex_compound] at c1
  refine Ev.bind (Ratio_ev 1 10 (by decide) (by decide) (by decide) (by decide)) (Ev.pure rfl (Ev.bind (Whole_ev 36500 (by decide) (by decide)) (Ev.bind s1 (Ev.bind c1 ?_))))
  refine Ev.congr (h := fun k => (L0Whole.f k 300).bind fun bt962 => (if ((tri ((300 : Int) : Rat)).1 == bt962.1 && ((tri ((300 : Int) : Rat)).2.1.toList == bt962.2.1.toList && ((tri ((300 : Int) : Rat)).2.2.toList == bt962.2.2.toList))) = true then ((L0Ratio.f k 21945 73).bind fun bt965 => (some ((tri (mkRat 21945 73)).1 == bt965.1 && ((tri (mkRat 21945 73)).2.1.toList == bt965.2.1.toList && ((tri (mkRat 21945 73)).2.2.toList == bt965.2.2.toList))))) else (some false))) (fun k => ?_) ?_
  · exact if_pos rfl
  · refine Ev.bind (Whole_ev 300 (by decide) (by decide)) ?_
    simp only [if_pos (same3 ((300 : Int) : Rat) ((300 : Int) : Rat) rfl)]
    exact (Ev.bind (h := fun _ bt965 => (some ((tri (mkRat 21945 73)).1 == bt965.1 && ((tri (mkRat 21945 73)).2.1.toList == bt965.2.1.toList && ((tri (mkRat 21945 73)).2.2.toList == bt965.2.2.toList))))) (Ratio_ev 21945 73 (by decide) (by decide) (by decide) (by decide)) (Ev.of fun _ => rfl)).eq (same3 _ _ rfl)
theorem same4 (x : Bool × ByteArray × ByteArray × Int) : (if (x.1 == x.1 && (x.2.1.toList == x.2.1.toList && (x.2.2.1.toList == x.2.2.1.toList))) = true then (some (x.2.2.2 == x.2.2.2)) else (some false)) = some true := by simp
abbrev Par := S52
def zp : Par := z52
def u16 (x : Int) : Prop := 0 ≤ x ∧ x < 65536
theorem tm {x n : Int} (h : u16 x) (hn : 0 < n) (hn1 : n < 100000) : wrap64 (Int.tmod x n) = x % n := by
  unfold u16 at h
  rw [Int.tmod_eq_emod_of_nonneg h.1]
  have h1 := Int.emod_nonneg x (show n ≠ 0 by omega)
  have h2 := Int.emod_lt_of_pos x hn
  exact w64 (by omega) (by omega)
theorem sign_iff (q : Rat) : ¬ sign q < 0 ↔ 0 ≤ q := by
  unfold sign
  rw [← Rat.num_nonneg]
  by_cases h : q.num = 0
  · rw [if_pos h]; omega
  · rw [if_neg h]
    by_cases h2 : q.num < 0
    · rw [if_pos h2]; omega
    · rw [if_neg h2]; omega
theorem mk_nonneg {a : Int} {b : Nat} (ha : 0 ≤ a) : 0 ≤ mkRat a b := by
  rw [← Rat.num_nonneg, Rat.num_mkRat]
  split
  · exact Int.le_refl _
  · exact Int.ediv_nonneg ha (Int.natCast_nonneg _)
theorem mk_bd {a : Int} {b : Nat} (h0 : 0 ≤ a) (h1 : a < 256) (hb : b ≠ 0) (hb1 : b < 256) : Bd 1 (mkRat a b) := by
  have e : a = sg false a.toNat := by unfold sg; simp; omega
  rw [e]
  exact Bd.mk hb (by omega) (by omega)
def oneS (day : Int) (x : Par) : Stp := ⟨day + x.f0 % 60, ⟨(tri (mkRat (x.f1 % 12) 100)).1, (tri (mkRat (x.f1 % 12) 100)).2.1, (tri (mkRat (x.f1 % 12) 100)).2.2⟩⟩
def stepsL : List Par → Nat → Int → List Stp
  | [], _, _ => []
  | _ :: _, 0, _ => []
  | x :: t, n + 1, day => oneS day x :: stepsL t n (day + x.f0 % 60 + 1)
theorem rv_one (day : Int) (x : Par) : rv (oneS day x) = mkRat (x.f1 % 12) 100 := val_tri _
theorem stepsL_ok : ∀ (l : List Par) (n : Nat) (day : Int) (pv : Option Int), (∀ x ∈ l, u16 x.f0 ∧ u16 x.f1) → 0 ≤ day → day + n * 60 ≤ 1048576 → (∀ p, pv = some p → p < day) →
    chk pv (stepsL l n day) = 0 ∧ (stepsL l n day).length ≤ n ∧ ∀ y ∈ stepsL l n day, sz (t3 y.f1) ∧ Bd 25 (rv y)
  | [], n, _, _, _, _, _, _ => ⟨rfl, Nat.zero_le _, fun _ h => by cases h⟩
  | _ :: _, 0, _, _, _, _, _, _ => ⟨rfl, Nat.zero_le _, fun _ h => by cases h⟩
  | x :: t, n + 1, day, pv, hl, h0, h1, hp => by
    have hx := hl x List.mem_cons_self
    have m0 := Int.emod_nonneg x.f0 (show (60 : Int) ≠ 0 by decide)
    have m1 := Int.emod_lt_of_pos x.f0 (show (0 : Int) < 60 by decide)
    have k0 := Int.emod_nonneg x.f1 (show (12 : Int) ≠ 0 by decide)
    have k1 := Int.emod_lt_of_pos x.f1 (show (0 : Int) < 12 by decide)
    have hn : ((n + 1 : Nat) : Int) * 60 = n * 60 + 60 := by omega
    obtain ⟨i1, i2, i3⟩ := stepsL_ok t n (day + x.f0 % 60 + 1) (some (day + x.f0 % 60)) (fun y hy => hl y (List.mem_cons_of_mem _ hy)) (by omega) (by omega) (fun p e => by injection e with e; omega)
    have bd := mk_bd (b := 100) k0 (show x.f1 % 12 < 256 by omega) (by decide) (by decide)
    refine ⟨?_, Nat.succ_le_succ i2, fun y hy => ?_⟩
    · show (if isDayP (day + x.f0 % 60) then (if late pv (day + x.f0 % 60) = true then 15 else if sign (rv (oneS day x)) < 0 then 7 else chk (some (day + x.f0 % 60)) (stepsL t n (day + x.f0 % 60 + 1))) else 1) = 0
      have hlt : ¬ late pv (day + x.f0 % 60) = true := by
        cases pv with
        | none => exact fun e => by cases e
        | some p =>
          have := hp p rfl
          exact fun e => by have := of_decide_eq_true e; omega
      rw [if_pos (show isDayP (day + x.f0 % 60) from ⟨by omega, by omega⟩), if_neg hlt, rv_one, if_neg ((sign_iff _).2 (mk_nonneg k0)), i1]
    · rcases List.mem_cons.1 hy with rfl | hy
      · exact ⟨sz_tri bd (by decide), (rv_one day x).symm ▸ bd.up (by decide)⟩
      · exact i3 y hy
theorem pdrop_at {l : List Par} {i : Nat} (h : i < l.length) : l.drop i = l.getD i zp :: l.drop (i + 1) := by
  rw [List.drop_eq_getElem_cons h, List.getD_eq_getElem?_getD, List.getElem?_eq_getElem h]
  rfl
theorem pgetD_mem {l : List Par} {i : Nat} (h : i < l.length) : l.getD i zp ∈ l := by
  rw [List.getD_eq_getElem?_getD, List.getElem?_eq_getElem h]
  exact List.getElem_mem h
theorem prd_at (l : List Par) (i : Nat) : rd_T52 l (i : Int) = l.getD i zp := by
  show l.getD (i : Int).toNat _ = _
  rw [Int.toNat_natCast]
  rfl
theorem steps_l0' (l : List Par) (hl : ∀ x ∈ l, u16 x.f0 ∧ u16 x.f1) : ∀ d i, i + d = 5 → ∀ (out : List Stp) (day : Int), out.length = i → 0 ≤ day → day ≤ i * 60 →
    Ev (fun k => L0Steps.l0 k l out day (i : Int)) (out ++ stepsL (l.drop i) d day)
  | 0, i, h, out, day, ho, h0, h1 => by
    have hz : stepsL (l.drop i) 0 day = [] := by cases l.drop i <;> rfl
    rw [hz, List.append_nil]
    refine Ev.succ (h := fun _ => some out) (fun k => ?_) (Ev.of fun _ => rfl)
    simp only [L0Steps.l0]
    by_cases c : (i : Int) < (l.length : Int)
    · rw [if_pos c, if_neg (by omega)]
    · rw [if_neg c]
  | d + 1, i, h, out, day, ho, h0, h1 => by
    by_cases c : i < l.length
    · have c1 : (i : Int) < (l.length : Int) := by omega
      have hx := hl _ (pgetD_mem c)
      have hr := prd_at l i
      rw [pdrop_at c]
      generalize l.getD i zp = x at hx hr ⊢
      have m0 := Int.emod_nonneg x.f0 (show (60 : Int) ≠ 0 by decide)
      have m1 := Int.emod_lt_of_pos x.f0 (show (0 : Int) < 60 by decide)
      have k0 := Int.emod_nonneg x.f1 (show (12 : Int) ≠ 0 by decide)
      have k1 := Int.emod_lt_of_pos x.f1 (show (0 : Int) < 12 by decide)
      have q1 : (i : Int) < 5 := by omega
      have q2 : out.length < 2932031007402 := by omega
      have hlen : (out ++ [oneS day x]).length = i + 1 := by rw [List.length_append, ho]; rfl
      have q3 : (i : Int) < ((out ++ [oneS day x]).length : Int) := by rw [hlen]; exact Int.ofNat_lt.2 (Nat.lt_succ_self i)
      have q4 : i * 60 ≤ 300 := by omega
      have q5 : day ≤ 300 := by omega
      have ih := steps_l0' l hl d (i + 1) (by omega) (out ++ [oneS day x]) (day + x.f0 % 60 + 1) hlen (by omega) (by omega)
      have hR := Ratio_ev (x.f1 % 12) 100 (by omega) (by omega) (by decide) (by decide)
      have e1 : wrap64 (Int.tmod x.f1 12) = x.f1 % 12 := tm hx.2 (by decide) (by decide)
      have e2 : wrap64 (day + wrap64 (Int.tmod x.f0 60)) = day + x.f0 % 60 := by
        rw [tm hx.1 (by decide) (by decide)]
        clear e1 ih hR
        exact w64 (by omega) (by omega)
      have hn : wrap64 ((i : Int) + 1) = ((i + 1 : Nat) : Int) := ix_succ (Nat.le_trans (show i ≤ 5 by clear e1 e2 ih hR; omega) (by decide))
      have hget : rd_T29 (out ++ [oneS day x]) (i : Int) = oneS day x := by
        rw [rd_at, List.getD_eq_getElem?_getD, List.getElem?_append_right (Nat.le_of_eq ho), ho, Nat.sub_self]
        rfl
      have e3 : wrap64 ((oneS day x).f0 + 1) = day + x.f0 % 60 + 1 := by
        show wrap64 (day + x.f0 % 60 + 1) = _
        clear e1 e2 hn hget ih hR
        exact w64 (by omega) (by omega)
      show Ev _ (out ++ (oneS day x :: stepsL (l.drop (i + 1)) d (day + x.f0 % 60 + 1)))
      rw [show out ++ (oneS day x :: stepsL (l.drop (i + 1)) d (day + x.f0 % 60 + 1)) = (out ++ [oneS day x]) ++ stepsL (l.drop (i + 1)) d (day + x.f0 % 60 + 1) by rw [List.append_assoc]; rfl]
      refine Ev.succ (h := fun k => (L0Ratio.f k (x.f1 % 12) 100).bind fun bt918 => (if out.length < 2932031007402 then ((some (out ++ [(⟨day + x.f0 % 60, (⟨bt918.1, bt918.2.1, bt918.2.2⟩ : RatS)⟩ : Stp)] : List Stp)).bind fun y921 => (if (i : Int) < (y921.length : Int) then (L0Steps.l0 k l y921 (wrap64 ((rd_T29 y921 (i : Int)).f0 + 1)) (wrap64 ((i : Int) + 1))) else (none))) else (none))) (fun k => ?_) ?_
      · simp only [L0Steps.l0]
        rw [if_pos c1, if_pos q1, if_pos (Int.natCast_nonneg i), hr, e1, e2]
      · refine Ev.bind hR ?_
        refine Ev.congr (h := fun k => L0Steps.l0 k l (out ++ [oneS day x]) (day + x.f0 % 60 + 1) ((i + 1 : Nat) : Int)) (fun k => ?_) ih
        rw [if_pos q2, Option.bind_some]
        show (if (i : Int) < ((out ++ [oneS day x]).length : Int) then L0Steps.l0 k l (out ++ [oneS day x]) (wrap64 ((rd_T29 (out ++ [oneS day x]) (i : Int)).f0 + 1)) (wrap64 ((i : Int) + 1)) else none) = _
        rw [if_pos q3, hget, e3, hn]
    · rw [List.drop_eq_nil_of_le (by omega)]
      show Ev _ (out ++ [])
      rw [List.append_nil]
      refine Ev.succ (h := fun _ => some out) (fun k => ?_) (Ev.of fun _ => rfl)
      simp only [L0Steps.l0]
      exact if_neg (by omega)
theorem Steps_ev (l : List Par) (hl : ∀ x ∈ l, u16 x.f0 ∧ u16 x.f1) : Ev (fun k => L0Steps.f k l) (stepsL l 5 0) := by
  unfold L0Steps.f
  have h := steps_l0' l hl 5 0 (by decide) [] 0 rfl (by decide) (by decide)
  rw [List.drop_zero] at h
  exact h
theorem steps_good (l : List Par) (hl : ∀ x ∈ l, u16 x.f0 ∧ u16 x.f1) : chkAll (stepsL l 5 0) = 0 ∧ Fine (stepsL l 5 0) := by
  obtain ⟨h1, h2, h3⟩ := stepsL_ok l 5 0 none hl (by decide) (by decide) (fun p e => by cases e)
  refine ⟨?_, Nat.le_trans h2 (by decide), h3⟩
  unfold chkAll
  rw [if_neg (by omega)]
  exact h1
def amt (x : Int) : Rat := if x % 5 = 0 then mkRat (x / 5 % 23) (1 + x / 115 % 6).toNat else if x % 5 = 1 then ((10 * (x / 5 % 4) : Int) : Rat) else ((x / 5 % 13 : Int) : Rat)
theorem Amount_ev (x : Int) (hx : u16 x) : Ev (fun k => L0Amount.f k x) (tri (amt x)) := by
  unfold u16 at hx
  unfold L0Amount.f amt
  have t5 : Int.tmod x 5 = x % 5 := Int.tmod_eq_emod_of_nonneg hx.1
  have d5 : IntKind.u16.wrap (Int.tdiv x 5) = x / 5 := by
    rw [Int.tdiv_eq_ediv_of_nonneg hx.1]
    show (x / 5) % 65536 = x / 5
    omega
  have d115 : IntKind.u16.wrap (Int.tdiv x 115) = x / 115 := by
    rw [Int.tdiv_eq_ediv_of_nonneg hx.1]
    show (x / 115) % 65536 = x / 115
    omega
  have u5 : u16 (x / 5) := ⟨by omega, by omega⟩
  have u115 : u16 (x / 115) := ⟨by omega, by omega⟩
  rw [t5, d5, d115]
  by_cases c : x % 5 = 0
  · simp only [if_pos c]
    rw [tm u5 (by decide) (by decide), tm u115 (by decide) (by decide), w64 (by omega) (by omega)]
    exact Ev.bind (Ratio_ev _ _ (by omega) (by omega) (by omega) (by omega)) (Ev.of fun _ => rfl)
  · simp only [if_neg c]
    by_cases c2 : x % 5 = 1
    · simp only [if_pos c2]
      rw [tm u5 (by decide) (by decide), w64 (by omega) (by omega)]
      exact Ev.bind (Whole_ev _ (by omega) (by omega)) (Ev.of fun _ => rfl)
    · simp only [if_neg c2]
      rw [tm u5 (by decide) (by decide)]
      exact Ev.bind (Whole_ev _ (by omega) (by omega)) (Ev.of fun _ => rfl)
theorem amt_good (x : Int) (hx : u16 x) : 0 ≤ amt x ∧ Bd 8 (amt x) := by
  unfold u16 at hx
  unfold amt
  split
  · exact ⟨mk_nonneg (by omega), (mk_bd (by omega) (by omega) (by omega) (by omega)).up (by decide)⟩
  · split
    · exact ⟨by exact_mod_cast (show (0 : Int) ≤ 10 * (x / 5 % 4) by omega), bd_int (by omega) (by omega)⟩
    · exact ⟨by exact_mod_cast (show (0 : Int) ≤ x / 5 % 13 by omega), bd_int (by omega) (by omega)⟩
def u8 (x : Int) : Prop := 0 ≤ x ∧ x < 256
theorem Opposite_ev (q : Rat) : R1Opposite.f (tri q).1 (tri q).2.1 (tri q).2.2 = some (tri (-q)) := by
  rw [neg_sgn]
  unfold R1Opposite.f
  by_cases h1 : (tri q).2.1.toList = ([] : List UInt8)
  · rw [if_pos h1]
    have h2 := toList_nil.1 h1
    have h3 : q = 0 := (num_nil q).1 h1
    subst h3
    rw [tri_zero]
    rfl
  · rw [if_neg h1, show decide ((tri q).2.1 ≠ ⟨#[]⟩) = true from decide_eq_true (fun h => h1 (toList_nil.2 h)), Bool.and_true]
theorem Minus_ev (p q : Rat) {e : Nat} (hp : Bd e p) (hq : Bd e q) (he : e ≤ 91625968981) : Ev (fun k => R1Minus.f k (tri p).1 (tri p).2.1 (tri p).2.2 (tri q).1 (tri q).2.1 (tri q).2.2) (tri (p - q)) := by
  unfold R1Minus.f
  rw [Rat.sub_eq_add_neg]
  exact Ev.pure (Opposite_ev q) (Ev.bind (Plus_ev p (-q) hp hq.neg he) (Ev.of fun _ => rfl))
theorem comp_stop' (l : List Stp) (til base every : Int) (n : Nat) (day : Int) (s : Rat) (h : til ≤ day) : compL l til base every n day s = s := by
  cases n with
  | zero => rfl
  | succ n => exact if_neg (by omega)
theorem comp_same (l : List Stp) (til base : Int) (n : Nat) (day : Int) (s : Rat) (E F : Int) (hE : til - day ≤ E) (hF : til - day ≤ F) : compL l til base E (n + 1) day s = compL l til base F (n + 1) day s := by
  show (if day < til then compL l til base E n (day + E) (s + s * simR l day (min (day + E) til) base) else s) = (if day < til then compL l til base F n (day + F) (s + s * simR l day (min (day + F) til) base) else s)
  by_cases c : day < til
  · rw [if_pos c, if_pos c, comp_stop' l til base E n _ _ (by omega), comp_stop' l til base F n _ _ (by omega), show min (day + E) til = til by omega, show min (day + F) til = til by omega]
  · rw [if_neg c, if_neg c]
theorem rcomp_j2 (l : List Stp) (hf : Fine l) (hday : ∀ x ∈ l, isDayP x.f0) (hs : Asc (stOf l)) (p : T3) (til base every : Int) (hbase : 0 < base) (hbase1 : base ≤ 9223372036854775807) (day fin : Int) (hda : isDayP day) (hfi : isDayP fin) (hdf : day ≤ fin) (s : Rat) {e : Nat} (hb : Bd e s) (he : e ≤ 1000000) {R : Bool × ByteArray × ByteArray × Int}
    (h : Ev (fun k => R1Compound.l0 k l fin til base every p.1 p.2.1 p.2.2 (tri (s + s * simR l day fin base)).1 (tri (s + s * simR l day fin base)).2.1 (tri (s + s * simR l day fin base)).2.2) R) :
    Ev (fun k => R1Compound.j2 k l day til base every fin p.1 p.2.1 p.2.2 (tri s).1 (tri s).2.1 (tri s).2.2) R := by
  have bs := segSum_bd l day fin (fun x hx => ⟨(hf.2 x hx).2, hday x hx⟩) hda hfi
  have hl := hf.1
  have hbne : (base : Rat) ≠ 0 := fun e => by have := Rat.intCast_eq_zero_iff.1 e; omega
  have bi : Bd 8 (base : Rat) := bd_int (by omega) (by omega)
  have t1 := Times_ev s (segSum (stOf l) day fin) (hb.up he) (bs.up (show l.length * 40 + 1 ≤ 1000000 by omega)) (by decide)
  have o1 := Over_ev (s * segSum (stOf l) day fin) (base : Rat) ((hb.mul bs).up (show e + (l.length * 40 + 1) ≤ 2000000 by omega)) (bi.up (show 8 ≤ 2000000 by decide)) (by decide) hbne
  have eq : s * segSum (stOf l) day fin / (base : Rat) = s * simR l day fin base := by
    unfold simR
    rw [Rat.div_def, Rat.div_def, Rat.mul_assoc]
  rw [eq] at o1
  have br := simR_bd l hf hday day fin base hda hfi hbase hbase1
  have p1 := Plus_ev s (s * simR l day fin base) (hb.up (show e ≤ 2000000 by omega)) ((hb.mul br).up (show e + 2569 ≤ 2000000 by omega)) (by decide)
  refine Ev.succ (h := fun k => (R1accrued.f k l day fin).bind fun bt937 => ((R1Times.f k (tri s).1 (tri s).2.1 (tri s).2.2 bt937.1 bt937.2.1 bt937.2.2).bind fun bt940 => ((R1Int.f k base).bind fun bt943 => ((R1Over.f k bt940.1 bt940.2.1 bt940.2.2 bt943.1 bt943.2.1 bt943.2.2).bind fun bt946 => ((R1Plus.f k (tri s).1 (tri s).2.1 (tri s).2.2 bt946.1 bt946.2.1 bt946.2.2).bind fun bt949 => (R1Compound.l0 k l fin til base every p.1 p.2.1 p.2.2 bt949.1 bt949.2.1 bt949.2.2)))))) (fun k => by simp only [R1Compound.j2]) ?_
  exact Ev.bind (accrued_ev l hf hday hs day fin hda hfi hdf) (Ev.bind t1 (Ev.bind (rInt_ev base (by omega) (by omega)) (Ev.bind o1 (Ev.bind p1 h))))
theorem rcomp_l0 (l : List Stp) (hf : Fine l) (hday : ∀ x ∈ l, isDayP x.f0) (hs : Asc (stOf l)) (p : T3) (hp : sz p) (hbp : Bd 300000 (val3 p)) (til base every : Int) (hto : isDayP til) (hbase : 0 < base) (hbase1 : base ≤ 9223372036854775807) (he : 1 ≤ every) :
    ∀ (n : Nat) (day : Int) (s : Rat) (e : Nat), 0 ≤ day → day ≤ til → til - day ≤ n * every → Bd e s → e + n * 2571 ≤ 1000000 →
      Ev (fun k => R1Compound.l0 k l day til base every p.1 p.2.1 p.2.2 (tri s).1 (tri s).2.1 (tri s).2.2) (tri4 (compL l til base every n day s - val3 p) 0)
  | n, day, s, e, h0, h1, hn, hb, hE => by
    have hto' := hto
    unfold isDayP at hto'
    by_cases c : day < til
    · cases n with
      | zero => simp at hn; omega
      | succ n =>
        have hda : isDayP day := ⟨h0, by omega⟩
        have hEn : (n + 1) * 2571 = n * 2571 + 2571 := Nat.succ_mul n 2571
        have hne : ((n + 1 : Nat) : Int) * every = n * every + every := by rw [Int.natCast_add, Int.add_mul]; omega
        rw [hne] at hn
        have hw : wrap64 (til - day) = til - day := w64 (by omega) (by omega)
        have hne0 : 0 ≤ (n : Int) * every := Int.mul_nonneg (by omega) (by omega)
        show Ev _ (tri4 ((if day < til then compL l til base every n (day + every) (s + s * simR l day (min (day + every) til) base) else s) - val3 p) 0)
        rw [if_pos c]
        by_cases ce : every < til - day
        · have hw2 : wrap64 (day + every) = day + every := w64 (by omega) (by omega)
          have hm : min (day + every) til = day + every := by omega
          rw [hm]
          have hfi : isDayP (day + every) := ⟨by omega, by omega⟩
          have hr := simR_bd l hf hday day (day + every) base hda hfi hbase hbase1
          have ih := rcomp_l0 l hf hday hs p hp hbp til base every hto hbase hbase1 he n (day + every) (s + s * simR l day (day + every) base) (e + 2571) (by omega) (by omega) (by omega) (comp_step s _ hb hr) (by omega)
          refine Ev.succ (h := fun k => R1Compound.j2 k l day til base every (day + every) p.1 p.2.1 p.2.2 (tri s).1 (tri s).2.1 (tri s).2.2) (fun k => ?_) (rcomp_j2 l hf hday hs p til base every hbase hbase1 day (day + every) hda hfi (by omega) s hb (by omega) ih)
          simp only [R1Compound.l0]
          rw [if_pos c, hw, if_pos ce, hw2]
        · have hm : min (day + every) til = til := by omega
          rw [hm, comp_stop' l til base every n (day + every) _ (by omega)]
          have hr := simR_bd l hf hday day til base hda hto hbase hbase1
          have ih := rcomp_l0 l hf hday hs p hp hbp til base every hto hbase hbase1 he n til (s + s * simR l day til base) (e + 2571) (by omega) (by omega) (by omega) (comp_step s _ hb hr) (by omega)
          rw [comp_stop' l til base every n til _ (Int.le_refl _)] at ih
          refine Ev.succ (h := fun k => R1Compound.j2 k l day til base every til p.1 p.2.1 p.2.2 (tri s).1 (tri s).2.1 (tri s).2.2) (fun k => ?_) (rcomp_j2 l hf hday hs p til base every hbase hbase1 day til hda hto (by omega) s hb (by omega) ih)
          simp only [R1Compound.l0]
          rw [if_pos c, hw, if_neg ce]
    · have e3 : compL l til base every n day s = s := comp_stop' l til base every n day s (by omega)
      rw [e3]
      have m1 := Minus_ev s (val3 p) (hb.up (show e ≤ 1000000 by omega)) (hbp.up (show 300000 ≤ 1000000 by decide)) (by decide)
      exact Ev.succ (h := fun k => (R1Fix.f k p.1 p.2.1 p.2.2).bind fun bt931 => ((R1Minus.f k (tri s).1 (tri s).2.1 (tri s).2.2 bt931.1 bt931.2.1 bt931.2.2).bind fun bt934 => (some (bt934.1, bt934.2.1, bt934.2.2, 0)))) (fun k => by simp only [R1Compound.l0]; exact if_neg c) (Ev.bind (Fix_ev p hp) (Ev.bind m1 (Ev.of fun _ => rfl)))
theorem rcomp_j0 (l : List Stp) (hf : Fine l) (hday : ∀ x ∈ l, isDayP x.f0) (hs : Asc (stOf l)) (p : T3) (hp : sz p) (hbp : Bd 300000 (val3 p)) (a b base every : Int) (ha : isDayP a) (hb : isDayP b) (hab : a ≤ b) (hbase : 0 < base) (hbase1 : base ≤ 9223372036854775807) (he : 1 ≤ every) (c : Bool) (hc : c = false → b - a ≤ 64 * every) :
    Ev (fun k => R1Compound.j0 k l a b base every c p.1 p.2.1 p.2.2) (if c = true then tri4 0 2 else tri4 (compL l b base every 64 a (val3 p) - val3 p) 0) := by
  cases c with
  | true =>
    rw [if_pos rfl, tri4_zero]
    exact Ev.succ (h := fun _ => some (false, (⟨#[]⟩ : ByteArray), (⟨#[]⟩ : ByteArray), 2)) (fun k => by simp only [R1Compound.j0]; exact if_pos trivial) (Ev.of fun _ => rfl)
  | false =>
    rw [if_neg (by decide)]
    have h := rcomp_l0 l hf hday hs p hp hbp b base every hb hbase hbase1 he 64 a (val3 p) 300000 ha.1 hab (by have := hc rfl; omega) hbp (by decide)
    exact Ev.succ (h := fun k => (R1Fix.f k p.1 p.2.1 p.2.2).bind fun bt927 => (R1Compound.l0 k l a b base every p.1 p.2.1 p.2.2 bt927.1 bt927.2.1 bt927.2.2)) (fun k => by simp only [R1Compound.j0]; exact if_neg (by decide)) (Ev.bind (Fix_ev p hp) h)
theorem over1 {D E : Int} (h0 : 0 ≤ D) (h1 : D ≤ 1048576) (hE : 1 ≤ E) : ((D + min E 1048577 - 1) / min E 1048577 > 64) ↔ D > 64 * E := by
  by_cases c : E ≤ 1048577
  · rw [show min E 1048577 = E by omega]
    have h2 : (D + E - 1) / E < 65 ↔ D + E - 1 < 65 * E := Int.ediv_lt_iff_lt_mul (by omega)
    constructor
    · intro h; apply Classical.byContradiction; intro hn
      have := h2.2 (by omega); omega
    · intro h; apply Classical.byContradiction; intro hn
      have := h2.1 (by omega); omega
  · rw [show min E 1048577 = 1048577 by omega]
    omega
theorem over2 {D E : Int} (h0 : 0 ≤ D) (hE : 1 ≤ E) : (D / E > 64 → D > 64 * E) ∧ (D / E = 64 → (D % E > 0 ↔ D > 64 * E)) ∧ (D / E < 64 → ¬ D > 64 * E) := by
  have e := Int.mul_ediv_add_emod D E
  have r0 := Int.emod_nonneg D (show E ≠ 0 by omega)
  have r1 := Int.emod_lt_of_pos D (show 0 < E by omega)
  refine ⟨fun h => ?_, fun h => ?_, fun h => ?_⟩
  · have := Int.mul_le_mul_of_nonneg_left (show (65 : Int) ≤ D / E by omega) (show 0 ≤ E by omega)
    omega
  · rw [h] at e
    omega
  · have := Int.mul_le_mul_of_nonneg_left (show D / E ≤ (63 : Int) by omega) (show 0 ≤ E by omega)
    omega
theorem rCompound_ev (p : T3) (hp : sz p) (hbp : Bd 300000 (val3 p)) (l : List Stp) (hf : l.length ≤ 64 → Fine l) (a b base every : Int) : Ev (fun k => R1Compound.f k p.1 p.2.1 p.2.2 l a b base every) (compoundR (val3 p) l a b base every) := by
  unfold R1Compound.f compoundR
  refine Ev.bind (interval_ev p hp l (fun h => (hf h).sz h) a b base every) ?_
  by_cases h : argsErr (chkAll l) (val3 p) a b base every = 0
  · simp only [if_pos h]
    obtain ⟨h1, ha, hb, h2, h5, h6, _⟩ := argsErr_zero h
    obtain ⟨h3, hasc, h4⟩ := chkAll_days h1
    have hl := hf h3
    have hd : ∀ x ∈ l, isDayP x.f0 := fun x hx => (h4 x hx).1
    have ha' := ha; have hb' := hb
    unfold isDayP at ha' hb'
    simp only [if_neg (show ¬ every = 0 by omega)]
    have o1 := over1 (D := b - a) (E := every) (by omega) (by omega) h5
    obtain ⟨q1, q2, q3⟩ := over2 (D := b - a) (E := every) (by omega) h5
    have hw : wrap64 (b - a) = b - a := w64 (by omega) (by omega)
    have hq : wrap64 (Int.tdiv (b - a) every) = (b - a) / every := by
      rw [Int.tdiv_eq_ediv_of_nonneg (by omega)]
      have g0 : 0 ≤ (b - a) / every := Int.ediv_nonneg (by omega) (by omega)
      have g1 : (b - a) / every ≤ b - a := Int.ediv_le_self _ (by omega)
      exact w64 (by omega) (by omega)
    rw [hw, hq, Int.tmod_eq_emod_of_nonneg (by omega)]
    have j := rcomp_j0 l hl hd hasc p hp hbp a b base every ha hb (by omega) (by omega) (by omega) h5
    have same : ¬ b - a > 64 * every → compL l b base every 64 a (val3 p) = compL l b base (min every 1048577) 64 a (val3 p) := fun _ => by
      by_cases c : every ≤ 1048577
      · rw [show min every 1048577 = every by omega]
      · exact comp_same l b base 63 a (val3 p) every (min every 1048577) (by omega) (by omega)
    by_cases g : b - a > 64 * every
    · rw [if_pos (o1.2 g)]
      have jt := j true (fun h => by cases h)
      rw [if_pos rfl] at jt
      by_cases c1 : (b - a) / every > 64
      · simp only [if_pos c1]
        exact jt
      · simp only [if_neg c1]
        by_cases c2 : (b - a) / every = 64
        · simp only [if_pos c2, decide_eq_true ((q2 c2).2 g)]
          exact jt
        · exact absurd g (q3 (by omega))
    · rw [if_neg (fun h => g (o1.1 h)), ← same g]
      have jf := j false (fun _ => by omega)
      rw [if_neg (by decide)] at jf
      by_cases c1 : (b - a) / every > 64
      · exact absurd (q1 c1) g
      · simp only [if_neg c1]
        by_cases c2 : (b - a) / every = 64
        · simp only [if_pos c2, decide_eq_false (fun h => g ((q2 c2).1 h))]
          exact jf
        · simp only [if_neg c2]
          exact jf
  · simp only [if_neg h]
    rw [tri4_zero]
    exact Ev.of fun _ => rfl
theorem icomp_j2 (p : T3) (hp : fewT p) (l : List Stp) (h : fewL l) (a b base every : Int) (c : Bool) : Ev (fun k => L6InterestCompound.j2 k l a b base every c p.1 p.2.1 p.2.2) true := by
  cases c with
  | true => exact Ev.succ (h := fun k => (L6awake.f k).bind fun t => some t) (fun k => by simp only [L6InterestCompound.j2]; exact if_pos trivial) (Ev.bind awake_ev (Ev.of fun _ => rfl))
  | false =>
    have hf := h.fine
    have hb : Bd 300000 (val3 p) := (Bd_val hp.1 hp.2).up (by decide)
    have s1 := Compound_ev p hp.sz l (fun _ => hf) a b base every hb (by decide)
    have s2 := rCompound_ev p hp.sz hb l (fun _ => hf) a b base every
    refine Ev.succ (h := fun k => (I1Compound.f k p.1 p.2.1 p.2.2 l a b base every).bind fun bt963 => ((R1Compound.f k p.1 p.2.1 p.2.2 l a b base every).bind fun bt968 => ((L6awake.f k).bind fun t973 => (if t973 = true then (if (bt963.1 == bt968.1 && (bt963.2.1.toList == bt968.2.1.toList && (bt963.2.2.1.toList == bt968.2.2.1.toList))) = true then (some (bt963.2.2.2 == bt968.2.2.2)) else (some false)) else (some false))))) (fun k => by simp only [L6InterestCompound.j2]; exact if_neg (by decide)) ?_
    refine Ev.bind s1 (Ev.bind s2 (Ev.bind awake_ev ?_))
    simp only [if_true]
    exact Ev.of fun _ => same4 _
theorem icomp_l0 (p : T3) (hp : fewT p) (l : List Stp) (h : fewL l) (a b base every : Int) : ∀ d i, i + d = l.length → Ev (fun k => L6InterestCompound.l0 k l a b base every l (l.length : Int) (i : Int) p.1 p.2.1 p.2.2) true
  | 0, i, hi => by
    have j := icomp_j2 p hp l h a b base every
    refine Ev.succ (h := fun k => (R1IsDay.f a).bind fun t960 => (if t960 = true then ((R1IsDay.f b).bind fun t961 => (if t961 = true then (if every ≥ 1 then (if every = 0 then (none) else (L6InterestCompound.j2 k l a b base every (decide ((wrap64 (Int.tdiv (wrap64 (b - a)) every)) > 12)) p.1 p.2.1 p.2.2)) else (L6InterestCompound.j2 k l a b base every false p.1 p.2.1 p.2.2)) else (L6InterestCompound.j2 k l a b base every false p.1 p.2.1 p.2.2))) else (L6InterestCompound.j2 k l a b base every false p.1 p.2.1 p.2.2))) (fun k => by simp only [L6InterestCompound.l0]; exact if_neg (by omega)) ?_
    by_cases ha : isDayP a
    · refine Ev.pure (IsDay_t ha) ?_
      simp only [if_true]
      by_cases hb : isDayP b
      · refine Ev.pure (IsDay_t hb) ?_
        simp only [if_true]
        by_cases c : every ≥ 1
        · simp only [if_pos c, if_neg (show ¬ every = 0 by omega)]
          exact j _
        · simp only [if_neg c]
          exact j _
      · refine Ev.pure (IsDay_f hb) ?_
        simp only [if_neg (show ¬ false = true by decide)]
        exact j _
    · refine Ev.pure (IsDay_f ha) ?_
      simp only [if_neg (show ¬ false = true by decide)]
      exact j _
  | d + 1, i, hi => by
    have h1 : (i : Int) < (l.length : Int) := by omega
    have hl := h.1
    have hn : wrap64 ((i : Int) + 1) = ((i + 1 : Nat) : Int) := ix_succ (by omega)
    have ih := icomp_l0 p hp l h a b base every d (i + 1) (by omega)
    by_cases c1 : (((rd_T29 l (i : Int)).f1.f1).size : Int) > 4
    · exact Ev.succ (h := fun k => (L6awake.f k).bind fun t => some t) (fun k => by simp only [L6InterestCompound.l0]; rw [if_pos h1, if_pos (Int.natCast_nonneg i), if_pos h1, if_pos c1]) (Ev.bind awake_ev (Ev.of fun _ => rfl))
    · by_cases c2 : (((rd_T29 l (i : Int)).f1.f2).size : Int) > 4
      · exact Ev.succ (h := fun k => (L6awake.f k).bind fun t => some t) (fun k => by simp only [L6InterestCompound.l0]; rw [if_pos h1, if_pos (Int.natCast_nonneg i), if_pos h1, if_neg c1, if_pos c2]) (Ev.bind awake_ev (Ev.of fun _ => rfl))
      · exact Ev.succ (h := fun k => L6InterestCompound.l0 k l a b base every l (l.length : Int) ((i + 1 : Nat) : Int) p.1 p.2.1 p.2.2) (fun k => by simp only [L6InterestCompound.l0]; rw [if_pos h1, if_pos (Int.natCast_nonneg i), if_pos h1, if_neg c1, if_neg c2, hn]) ih
theorem icomp_bad (l : List Stp) (a b base every : Int) (p : T3) : Ev (fun k => L6InterestCompound.j0 k l a b base every true p.1 p.2.1 p.2.2) true :=
  Ev.succ (h := fun k => (L6awake.f k).bind fun t => some t) (fun k => by simp only [L6InterestCompound.j0]; exact if_pos trivial) (Ev.bind awake_ev (Ev.of fun _ => rfl))
theorem InterestCompound_ev (p : T3) (l : List Stp) (a b base every : Int) : Ev (fun k => L6InterestCompound.f k p.1 p.2.1 p.2.2 l a b base every) true := by
  unfold L6InterestCompound.f
  refine Ev.bind (few_ev l) ?_
  by_cases h : fewL l
  · simp only [if_pos (decide_eq_true h)]
    refine Ev.pure (Few_ev p) ?_
    by_cases hp : fewT p
    · rw [decide_eq_true hp]
      exact Ev.succ (h := fun k => L6InterestCompound.l0 k l a b base every l (l.length : Int) ((0 : Nat) : Int) p.1 p.2.1 p.2.2) (fun k => by simp only [L6InterestCompound.j0]; exact if_neg (by decide)) (icomp_l0 p hp l h a b base every l.length 0 (by omega))
    · rw [decide_eq_false hp]
      exact icomp_bad l a b base every p
  · simp only [if_neg (show ¬ decide (fewL l) = true from fun e => h (of_decide_eq_true e))]
    exact icomp_bad l a b base every p
theorem InterestPeriods_ev (x : Int) (l : List Par) (a n v : Int) (hx : u16 x) (hl : ∀ y ∈ l, u16 y.f0 ∧ u16 y.f1) (ha : u8 a) (hn : u8 n) (hv : u8 v) : Ev (fun k => L6InterestPeriods.f k x l a n v) true := by
  unfold L6InterestPeriods.f
  unfold u8 at ha hn hv
  obtain ⟨p0, pb⟩ := amt_good x hx
  obtain ⟨hchk, hfine⟩ := steps_good l hl
  have k0 := Int.emod_nonneg v (show (40 : Int) ≠ 0 by decide)
  have k1 := Int.emod_lt_of_pos v (show (0 : Int) < 40 by decide)
  have e1 : wrap64 a = a := w64 (by omega) (by omega)
  have e2 : wrap64 n = n := w64 (by omega) (by omega)
  have e3 : wrap64 (Int.tmod v 40) = v % 40 := tm ⟨hv.1, by clear e1 e2; omega⟩ (by decide) (by decide)
  rw [e1, e2, e3]
  clear e1 e2 e3
  have e4 : wrap64 (a + n) = a + n := w64 (by omega) (by omega)
  have e5 : wrap64 (1 + v % 40) = 1 + v % 40 := w64 (by omega) (by omega)
  rw [e4, e5]
  clear e4 e5
  generalize hE : 1 + v % 40 = E
  have hE0 : 1 ≤ E := by omega
  have hE1 : E ≤ 40 := by omega
  have e6 : wrap64 (E * 64) = 64 * E := by rw [w64 (by omega) (by omega)]; omega
  rw [e6]
  clear e6
  generalize hst : stepsL l 5 0 = st at hchk hfine
  have hSt := Steps_ev l hl
  rw [hst] at hSt
  have hda : isDayP a := ⟨ha.1, by omega⟩
  have hdb : isDayP (a + n) := ⟨by omega, by omega⟩
  have sp : sz (tri (amt x)) := sz_tri pb (by decide)
  have args : argsErr (chkAll st) (amt x) a (a + n) 365 E = 0 := by
    unfold argsErr
    rw [hchk, if_pos rfl, if_pos ⟨hda, hdb, Or.inr rfl, hE0⟩, if_neg (by omega), if_neg ((sign_iff _).2 p0)]
  have c1 := Compound_ev (tri (amt x)) sp st (fun _ => hfine) a (a + n) 365 E (e := 8) (by rw [val_tri]; exact pb) (by decide)
  have c2 := rCompound_ev (tri (amt x)) sp (by rw [val_tri]; exact pb.up (by decide)) st (fun _ => hfine) a (a + n) 365 E
  rw [val_tri] at c1 c2
  have o1 := over1 (D := a + n - a) (E := E) (by omega) (by omega) hE0
  have ec : compoundR (amt x) st a (a + n) 365 E = (if n > 64 * E then tri4 0 2 else tri4 (compL st (a + n) 365 (min E 1048577) 64 a (amt x) - amt x) 0) := by
    unfold compoundR
    rw [if_pos args]
    by_cases g : n > 64 * E
    · rw [if_pos g, if_pos (o1.2 (by omega))]
    · rw [if_neg g, if_neg (fun h => g (by have := o1.1 h; omega))]
  rw [ec] at c1 c2
  refine Ev.bind hSt (Ev.bind (Amount_ev x hx) (Ev.bind c1 ?_))
  by_cases g : n > 64 * E
  · simp only [if_pos g]
    refine Ev.bind awake_ev ?_
    simp only [if_true]
    rw [tri4_zero]
    refine Ev.of fun _ => ?_
    show (if (2 : Int) = 2 then (some (!false && ((⟨#[]⟩ : ByteArray).toList == ([] : List UInt8) && ((⟨#[]⟩ : ByteArray).toList == ([] : List UInt8))))) else some false) = some true
    rw [if_pos rfl, toList_nil.2 rfl]
    rfl
  · simp only [if_neg g] at c2 ⊢
    generalize compL st (a + n) 365 (min E 1048577) 64 a (amt x) - amt x = C at c2 ⊢
    refine Ev.bind c2 (Ev.bind awake_ev ?_)
    simp only [if_true]
    refine Ev.of fun _ => ?_
    show (if (0 : Int) = 0 then (if (0 : Int) = 0 then (some ((tri C).1 == (tri C).1 && ((tri C).2.1.toList == (tri C).2.1.toList && ((tri C).2.2.toList == (tri C).2.2.toList)))) else (some false)) else (some false)) = some true
    rw [if_pos rfl, if_pos rfl, same3 C C rfl]
end Go.Proofs.YtggfilmdfpmbmaaGreatDoor.V
end
