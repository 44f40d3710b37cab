/-
  Steps and laws behind the statement that the claim's last text proves: the words of the walks, the walks of the Go functions (printed by a program of this session's own, then shortened by one), and what they compute. Conditions: stated at each theorem.
-/
import Derived.Test.YtggfilmdfpmbmaaGreatDoorPV
import Derived.Test.YtggfilmdfpmbmaaGreatDoorP1
import Derived.Lib.IndexBytes
import Derived.Test.YtggfilmdfpmbmaaGreatDoorP2
section
namespace Go.Proofs.YtggfilmdfpmbmaaGreatDoor.V
open Go.RowKit Go.Proofs.YtggfilmdfpmbmaaGreatDoorW.PrintWords Go.Proofs.YtggfilmdfpmbmaaGreatDoor.QN
set_option linter.unusedVariables false
theorem trim_l0 (l : List Int) (hl : lok l) (hlen : l.length ≤ 70368744177664) (d : Nat) : ∀ k, d < k → d ≤ l.length → lv (l.drop d) = 0 →
    ∃ r, N1limbs_trim.l0 k l (d : Int) = some r ∧ lcan r ∧ lv r = lv l := by
  induction d with
  | zero =>
    intro k hk _ hz
    obtain ⟨k, rfl⟩ : ∃ m, k = m + 1 := ⟨k - 1, by omega⟩
    refine ⟨[], ?_, lcan_nil, ?_⟩
    · simp only [N1limbs_trim.l0]
      rw [if_neg (by omega), if_pos (by omega), if_pos (by omega)]
      simp
    · rw [List.drop_zero] at hz
      rw [hz]; rfl
  | succ d ih =>
    intro k hk hd hz
    obtain ⟨k, rfl⟩ : ∃ m, k = m + 1 := ⟨k - 1, by omega⟩
    have e : wrap64 (((d + 1 : Nat) : Int) - 1) = (d : Int) := by unfold wrap64; omega
    have hdl : d < l.length := by omega
    have hsplit : lv (l.drop d) = rd l (d : Int) + 4294967296 * lv (l.drop (d + 1)) := by
      rw [List.drop_eq_getElem_cons hdl, lv, rd_nat, List.getD_eq_getElem?_getD, List.getElem?_eq_getElem hdl]
      rfl
    by_cases h0 : rd l (d : Int) = 0
    · obtain ⟨r, hr, hc, hv⟩ := ih k (by omega) (by omega) (by rw [hsplit, h0, hz]; rfl)
      refine ⟨r, ?_, hc, hv⟩
      simp only [N1limbs_trim.l0]
      rw [e, if_pos (by omega), if_pos (by omega), if_pos (by omega), if_pos h0]
      exact hr
    · refine ⟨l.take (d + 1), ?_, ⟨lok_take hl _, fun hn => ?_⟩, ?_⟩
      · simp only [N1limbs_trim.l0]
        rw [e, if_pos (by omega), if_pos (by omega), if_pos (by omega), if_neg h0, if_pos (by omega), if_pos (by omega)]
        rfl
      · intro h
        apply h0
        rw [rd_nat, List.getD_eq_getElem?_getD, List.getElem?_eq_getElem hdl]
        have : (l.take (d + 1)).getLast hn = l[d] := by
          rw [List.getLast_eq_getElem]
          simp only [List.length_take, Nat.min_eq_left (show d + 1 ≤ l.length by omega), Nat.add_sub_cancel, List.getElem_take]
        rw [this] at h
        simpa using h
      · have := lv_split l (d + 1) hd
        rw [hz, Int.mul_zero, Int.add_zero] at this
        exact this.symm
theorem trim_ev {l : List Int} (hl : lok l) (hlen : l.length ≤ 70368744177664) : Ev (fun k => N1limbs_trim.f k l) (lm (lv l).toNat) := by
  refine ⟨l.length + 1, fun k hk => ?_⟩
  obtain ⟨r, hr, hc, hv⟩ := trim_l0 l hl hlen l.length k (by omega) (Nat.le_refl _) (by rw [List.drop_length]; rfl)
  show N1limbs_trim.l0 k l (l.length : Int) = _
  rw [hr, lcan_lm hc, hv]
theorem bt_list (s : ByteArray) (i : Nat) (h : i < s.size) : bt s (i : Int) = ((s.data.toList[i]'(by simpa using h)).toNat : Int) := by
  unfold bt
  rw [dif_pos (by simpa using h)]
  rfl
theorem trimLeftByte_ev (n : Nat) : ∀ (s : ByteArray), s.size = n → Ev (fun k => T1trimLeftByte.f k s 0) (enc (sv s)) := by
  induction n with
  | zero =>
    intro s hs
    refine Ev.succ (h := fun _ => some s) (fun k => ?_) ?_
    · simp only [T1trimLeftByte.f, T1trimLeftByte.l0]
      rw [if_neg (by omega)]
    · have e : s = enc (sv s) := by
        apply ba_ext
        have h0 : s.data.toList = [] := List.eq_nil_of_length_eq_zero (by simpa using hs)
        have h1 : sv s = 0 := by unfold sv; rw [h0]; rfl
        rw [h1, h0]
        unfold enc encL
        simp
      rw [← e]
      exact Ev.of (fun _ => rfl)
  | succ n ih =>
    intro s hs
    have hlen : s.data.toList.length = n + 1 := by rw [Array.length_toList]; exact hs
    cases hl : s.data.toList with
    | nil => rw [hl] at hlen; cases hlen
    | cons b bs =>
      have hb : bt s 0 = (b.toNat : Int) := by
        have := bt_list s 0 (by omega)
        simp only [hl, List.getElem_cons_zero] at this
        exact this
      by_cases h0 : b = 0
      · have hx : (s.extract 1 s.size).data.toList = bs := by
          rw [Lib.extract_to_end, hl]
          rfl
        have hsz : (s.extract 1 s.size).size = n := by
          have h1 : (s.extract 1 s.size).data.toList.length = n := by
            rw [hx]
            rw [hl, List.length_cons] at hlen
            omega
          rw [Array.length_toList] at h1
          exact h1
        have e : sv (s.extract 1 s.size) = sv s := by
          unfold sv
          rw [hx, hl, h0]
          show bv bs = (0 : UInt8).toNat * 256 ^ bs.length + bv bs
          rw [show (0 : UInt8).toNat = 0 from rfl, Nat.zero_mul, Nat.zero_add]
        have h2 := ih _ hsz
        rw [e] at h2
        refine Ev.succ (fun k => ?_) h2
        show T1trimLeftByte.l0 (k + 1) s 0 = T1trimLeftByte.l0 k (s.extract 1 s.size) 0
        simp only [T1trimLeftByte.l0]
        rw [if_pos (by omega), if_pos (by omega), if_pos (by rw [hb, h0]; rfl), if_pos (by omega)]
      · have e : enc (sv s) = s := by
          apply ba_ext
          have : s.data.toList = encL (bv s.data.toList) := bcan_enc _ (by rw [hl]; intro h; exact h0 (Option.some.inj h))
          unfold enc sv
          rw [← this]
        rw [e]
        refine Ev.succ (h := fun _ => some s) (fun k => ?_) (Ev.of fun _ => rfl)
        show T1trimLeftByte.l0 (k + 1) s 0 = some s
        simp only [T1trimLeftByte.l0]
        have hne : ¬ ((b.toNat : Int) = 0) := fun h => h0 (UInt8.toNat_inj.1 (by simpa using h))
        rw [if_pos (by omega), if_pos (by omega), if_neg (by rw [hb]; exact hne)]
theorem Normalize_ev (s : ByteArray) : Ev (fun k => N1Normalize.f k s) (enc (sv s)) := by
  refine Ev.congr (fun k => ?_) (trimLeftByte_ev _ s rfl)
  unfold N1Normalize.f T1TrimLeft.f
  rw [if_pos rfl]
  cases T1trimLeftByte.f k s 0 <;> rfl
theorem lv_ge {l : List Int} (h : lok l) (i : Nat) : BP i * rd l (i : Int) ≤ lv l := by
  by_cases hi : i < l.length
  · have e := lv_split l i (Nat.le_of_lt hi)
    have e2 : lv (l.drop i) = rd l (i : Int) + 4294967296 * lv (l.drop (i + 1)) := by
      rw [List.drop_eq_getElem_cons hi, lv, rd_nat, List.getD_eq_getElem?_getD, List.getElem?_eq_getElem hi]
      rfl
    have h1 := lv_nonneg (lok_take h i)
    have h2 := lv_nonneg (lok_drop h (i + 1))
    have h3 := BP_pos i
    have h4 : BP i * rd l (i : Int) ≤ BP i * lv (l.drop i) := Int.mul_le_mul_of_nonneg_left (by omega) (by omega)
    omega
  · have : rd l (i : Int) = 0 := by
      rw [rd_nat, List.getD_eq_getElem?_getD, List.getElem?_eq_none (by omega)]
      rfl
    rw [this, Int.mul_zero]
    exact lv_nonneg h
theorem rd_lt_of {l : List Int} (h : lok l) (i : Nat) (m : Int) (hm : lv l < BP i * m) : rd l (i : Int) < m := by
  have h1 := lv_ge h i
  exact Int.lt_of_mul_lt_mul_left (Int.lt_of_le_of_lt h1 hm) (by have := BP_pos i; omega)
theorem or32_join {a b : Int} {s : Nat} (hs : s ≤ 24) (ha0 : 0 ≤ a) (ha : a < 2 ^ s) (hb0 : 0 ≤ b) (hb : b < 256) : Go.bits .or .u32 a (b % 4294967296 * 2 ^ s % 4294967296) = a + b * 2 ^ s := by
  have e1 : b % 4294967296 = b := by omega
  have hp : (0 : Int) < 2 ^ s := Int.pow_pos (by decide)
  have hple : (2 : Int) ^ s ≤ 2 ^ 24 := by
    have := Nat.pow_le_pow_right (show 0 < 2 by decide) hs
    exact_mod_cast this
  have hle : b * 2 ^ s ≤ 255 * 2 ^ 24 := Int.le_trans (Int.mul_le_mul_of_nonneg_right (show b ≤ 255 by omega) (by omega)) (Int.mul_le_mul_of_nonneg_left hple (by decide))
  have h0 : 0 ≤ b * 2 ^ s := Int.mul_nonneg hb0 (by omega)
  have e2 : b * 2 ^ s % 4294967296 = b * 2 ^ s := Int.emod_eq_of_lt h0 (by omega)
  rw [e1, e2, bits_or_comm, bits_join .u32 32 (by decide) wraps_u32 s _ _ h0 (Int.mul_emod_left _ _) (by omega) ha0 ha (by omega)]
  omega
theorem bv_drop (l : List UInt8) (i : Nat) (h : i < l.length) : bv (l.drop i) = (l[i]).toNat * 256 ^ (l.length - i - 1) + bv (l.drop (i + 1)) := by
  rw [List.drop_eq_getElem_cons h, bv, List.length_drop]
  rfl
theorem BP_bytes (i : Nat) : ((256 ^ i : Nat) : Int) = BP (i / 4) * 2 ^ (8 * (i % 4)) := by
  have e : i = 4 * (i / 4) + i % 4 := by omega
  have h1 : (256 : Nat) ^ i = (256 ^ 4) ^ (i / 4) * 256 ^ (i % 4) := by
    conv => lhs; rw [e]
    rw [Nat.pow_add, Nat.pow_mul]
  have h2 : (2 : Int) ^ (8 * (i % 4)) = 256 ^ (i % 4) := by rw [Int.pow_mul]; rfl
  rw [h1, h2, Int.natCast_mul, Int.natCast_pow, Int.natCast_pow]
  rfl
theorem limb_bound {a b P Q : Int} (hP : 0 < P) (hPQ : P * 256 ≤ 4294967296) (ha0 : 0 ≤ a) (ha : a < P) (hb0 : 0 ≤ b) (hb : b < 256) : 0 ≤ a + b * P ∧ a + b * P < 4294967296 := by
  have h1 : 0 ≤ b * P := Int.mul_nonneg hb0 (by omega)
  have h2 : b * P ≤ 255 * P := Int.mul_le_mul_of_nonneg_right (by omega) (by omega)
  omega
theorem pow8 (i : Nat) : (2 : Int) ^ (8 * (i % 4)) * 256 ≤ 4294967296 := by
  have h : i % 4 = 0 ∨ i % 4 = 1 ∨ i % 4 = 2 ∨ i % 4 = 3 := by omega
  rcases h with h | h | h | h <;> rw [h] <;> decide
theorem byte_step (x : List Int) (i b V : Nat) (hx : lok x) (hb : b < 256) (hil : i / 4 < x.length) (hV : V < 256 ^ i) (hv : lv x = V) :
    lok (x.set (i / 4) (rd x ((i / 4 : Nat) : Int) + (b : Int) * 2 ^ (8 * (i % 4)))) ∧ lv (x.set (i / 4) (rd x ((i / 4 : Nat) : Int) + (b : Int) * 2 ^ (8 * (i % 4)))) = ((b * 256 ^ i + V : Nat) : Int) ∧
    Go.bits .or .u32 (rd x ((i / 4 : Nat) : Int)) ((b : Int) % 4294967296 * 2 ^ (8 * (i % 4)) % 4294967296) = rd x ((i / 4 : Nat) : Int) + (b : Int) * 2 ^ (8 * (i % 4)) := by
  have hlt : lv x < BP (i / 4) * 2 ^ (8 * (i % 4)) := by
    rw [hv, ← BP_bytes]
    exact Int.ofNat_lt.2 hV
  have hrd := rd_lt_of hx (i / 4) _ hlt
  have hrd0 := (rd_ok hx ((i / 4 : Nat) : Int)).1
  have hb0 : (0 : Int) ≤ b := Int.natCast_nonneg b
  have hb1 : (b : Int) < 256 := Int.ofNat_lt.2 hb
  have hP : (0 : Int) < 2 ^ (8 * (i % 4)) := Int.pow_pos (by decide)
  have hor := or32_join (s := 8 * (i % 4)) (by have := Nat.mod_lt i (show 0 < 4 by decide); omega) hrd0 hrd hb0 hb1
  have hbd := limb_bound (Q := 0) hP (pow8 i) hrd0 hrd hb0 hb1
  refine ⟨lok_set hx hbd.1 hbd.2 _, ?_, hor⟩
  rw [lv_set _ _ _ hil, hv, ← rd_nat, Int.natCast_add, Int.natCast_mul, BP_bytes]
  generalize rd x ((i / 4 : Nat) : Int) = r
  generalize (2 : Int) ^ (8 * (i % 4)) = P
  generalize BP (i / 4) = Q
  grind
theorem parse_l0 (s : ByteArray) (hs : s.size ≤ 1099511627776) (d : Nat) : ∀ (i : Nat) (x : List Int), i + d = s.size → lok x → x.length = (s.size + 3) / 4 → lv x = (bv (s.data.toList.drop (s.size - i)) : Nat) →
    Ev (fun k => N1parse.l0 k s x (s.size : Int) (i : Int)) (lm (sv s)) := by
  induction d with
  | zero =>
    intro i x hi hx hl hv
    have hsz : s.size - i = 0 := by omega
    rw [hsz, List.drop_zero] at hv
    have ht := trim_ev hx (by omega)
    rw [hv, Int.toNat_natCast] at ht
    refine Ev.succ (h := fun k => (N1limbs_trim.f k x).bind fun t => some t) (fun k => ?_) (Ev.bind ht (Ev.of fun _ => rfl))
    simp only [N1parse.l0]
    rw [if_neg (by omega)]
  | succ d ih =>
    intro i x hi hx hl hv
    have hlen : s.data.toList.length = s.size := by rw [Array.length_toList]; rfl
    have hj : s.size - (i + 1) < s.data.toList.length := by omega
    have q1 : s.data.toList.length - (s.size - (i + 1)) - 1 = i := by omega
    have q2 : s.size - (i + 1) + 1 = s.size - i := by omega
    have q3 : s.data.toList.length - (s.size - i) = i := by omega
    have c1 : i ≤ 4611686018427387904 := by omega
    have c2 : i < s.size := by omega
    have c3 : s.size ≤ 4611686018427387904 := by omega
    have hil : i / 4 < x.length := by omega
    have b1 : (i : Int) < s.size := by omega
    have b2 : ((i / 4 : Nat) : Int) < x.length := by omega
    have b3 : ((s.size - (i + 1) : Nat) : Int) < s.size := by omega
    have b4 : ((8 * (i % 4) : Nat) : Int) ≤ 32 := by omega
    have b5 : i + 1 + d = s.size := by omega
    have b6 : s.size - (i + 1) < s.size := by omega
    have e1 := ix_tdiv (i := i) c1
    have e2 := ix_rev (n := s.size) (i := i) c2 c3
    have e3 := ix_tmod i
    have e4 := ix_succ (i := i) c1
    have ebt : bt s ((s.size - (i + 1) : Nat) : Int) = (((s.data.toList[s.size - (i + 1)]'hj).toNat : Nat) : Int) := bt_list s _ b6
    have hb : (s.data.toList[s.size - (i + 1)]'hj).toNat < 256 := (s.data.toList[s.size - (i + 1)]'hj).toNat_lt
    have hvi := bv_drop s.data.toList (s.size - (i + 1)) hj
    rw [q1, q2] at hvi
    have hV := bv_lt (s.data.toList.drop (s.size - i))
    rw [List.length_drop, q3] at hV
    obtain ⟨s1, s2, s3⟩ := byte_step x i _ _ hx hb hil hV hv
    rw [← hvi] at s2
    have h2 := ih (i + 1) _ b5 s1 (by rw [List.length_set]; exact hl) s2
    refine Ev.succ (fun k => ?_) h2
    simp only [N1parse.l0]
    rw [e1, e2, e3, e4, ebt, if_pos b1, if_pos (Int.natCast_nonneg _), if_pos b2, if_pos (Int.natCast_nonneg _), if_pos b3, if_pos (Int.natCast_nonneg _), if_pos b4, Int.toNat_natCast, Int.toNat_natCast, s3]
theorem parse_ev (s : ByteArray) (hs : s.size ≤ 1099511627776) : Ev (fun k => N1parse.f k s) (lm (sv s)) := by
  have e : wrap64 (Int.tdiv (wrap64 (wrap64 ((s.size : Int) + 4) - 1)) 4) = (((s.size + 3) / 4 : Nat) : Int) := by
    rw [w64 (x := (s.size : Int) + 4) (by omega) (by omega), w64 (x := (s.size : Int) + 4 - 1) (by omega) (by omega), Int.tdiv_eq_ediv_of_nonneg (by omega), w64 (by omega) (by omega)]
    omega
  have h := parse_l0 s hs s.size 0 (List.replicate ((s.size + 3) / 4) 0) (by omega) (lok_replicate _) (by simp) (by
    rw [lv_replicate, Nat.sub_zero, List.drop_of_length_le (by rw [Array.length_toList]; exact Nat.le_refl _)]
    rfl)
  refine Ev.congr (fun k => ?_) h
  unfold N1parse.f
  rw [e, if_pos (by omega), if_pos (by omega), Int.toNat_natCast]
  rfl
def dv : List Int → Int
  | [] => 0
  | x :: xs => x * 256 ^ xs.length + dv xs
theorem dv_bv (l : List Int) (h : ∀ x ∈ l, 0 ≤ x ∧ x < 256) : ((bv (strOfNums l).data.toList : Nat) : Int) = dv l := by
  induction l with
  | nil => rfl
  | cons x xs ih =>
    have h1 := h x List.mem_cons_self
    have h2 := ih (fun y hy => h y (List.mem_cons_of_mem _ hy))
    have e : (strOfNums (x :: xs)).data.toList = UInt8.ofNat x.toNat :: (strOfNums xs).data.toList := by simp [strOfNums]
    have e2 : (strOfNums xs).data.toList.length = xs.length := by simp [strOfNums]
    rw [e, bv, e2, dv, ← h2, Int.natCast_add, Int.natCast_mul, Int.natCast_pow]
    have e3 : (((UInt8.ofNat x.toNat).toNat : Nat) : Int) = x := by
      rw [UInt8.toNat_ofNat', Nat.mod_eq_of_lt (by omega)]
      omega
    rw [e3]
    rfl
theorem lv_div {l : List Int} (h : lok l) (j : Nat) (hj : j < l.length) : lv l / BP j = rd l (j : Int) + 4294967296 * lv (l.drop (j + 1)) := by
  have e := lv_split l j (Nat.le_of_lt hj)
  have e2 : lv (l.drop j) = rd l (j : Int) + 4294967296 * lv (l.drop (j + 1)) := by
    rw [List.drop_eq_getElem_cons hj, lv, rd_nat, List.getD_eq_getElem?_getD, List.getElem?_eq_getElem hj]
    rfl
  have h1 := lv_nonneg (lok_take h j)
  have h2 := lv_lt (lok_take h j)
  rw [List.length_take, Nat.min_eq_left (Nat.le_of_lt hj)] at h2
  rw [e, Int.add_mul_ediv_left _ _ (by have := BP_pos j; omega), Int.ediv_eq_zero_of_lt h1 h2, e2, Int.zero_add]
theorem byte_of (r h : Int) (i : Nat) : (r + 4294967296 * h) / 2 ^ (8 * (i % 4)) % 256 = r / 2 ^ (8 * (i % 4)) % 256 := by
  have hm : i % 4 = 0 ∨ i % 4 = 1 ∨ i % 4 = 2 ∨ i % 4 = 3 := by omega
  rcases hm with hm | hm | hm | hm <;> rw [hm]
  · show (r + 4294967296 * h) / 1 % 256 = r / 1 % 256; omega
  · show (r + 4294967296 * h) / 256 % 256 = r / 256 % 256; omega
  · show (r + 4294967296 * h) / 65536 % 256 = r / 65536 % 256; omega
  · show (r + 4294967296 * h) / 16777216 % 256 = r / 16777216 % 256; omega
theorem lv_byte {l : List Int} (h : lok l) (i : Nat) (hi : i / 4 < l.length) : lv l / ((256 ^ i : Nat) : Int) % 256 = rd l ((i / 4 : Nat) : Int) / 2 ^ (8 * (i % 4)) % 256 := by
  rw [BP_bytes, Int.ediv_mul_of_nonneg (Int.le_of_lt (BP_pos (i / 4))), lv_div h _ hi, byte_of]
theorem mod_succ (v : Int) (i : Nat) : v % ((256 ^ (i + 1) : Nat) : Int) = v / ((256 ^ i : Nat) : Int) % 256 * ((256 ^ i : Nat) : Int) + v % ((256 ^ i : Nat) : Int) := by
  rw [Nat.pow_succ, Int.natCast_mul]
  generalize hP : ((256 ^ i : Nat) : Int) = P
  have hp : 0 < P := by rw [← hP]; exact_mod_cast Nat.pow_pos (by decide)
  have h1 : v = P * (v / P) + v % P := (Int.mul_ediv_add_emod v P).symm
  have h2 : v / P = 256 * (v / P / 256) + v / P % 256 := (Int.mul_ediv_add_emod _ 256).symm
  have h3 := Int.emod_nonneg v (show P ≠ 0 by omega)
  have h4 := Int.emod_lt_of_pos v hp
  have h5 := Int.emod_nonneg (v / P) (show (256 : Int) ≠ 0 by decide)
  have h6 := Int.emod_lt_of_pos (v / P) (show (0 : Int) < 256 by decide)
  have e : v = P * (256 : Int) * (v / P / 256) + (v / P % 256 * P + v % P) := by grind
  have h7 : 0 ≤ v / P % 256 * P := Int.mul_nonneg h5 (by omega)
  have h8 : v / P % 256 * P ≤ 255 * P := Int.mul_le_mul_of_nonneg_right (by omega) (by omega)
  show v % (P * (256 : Int)) = _
  conv => lhs; rw [e]
  rw [Int.mul_add_emod_self_left]
  exact Int.emod_eq_of_lt (by omega) (by omega)
theorem dv_set_drop (y : List Int) (n i : Nat) (b : Int) (hy : y.length = n) (hi : i < n) :
    dv ((y.set (n - (i + 1)) b).drop (n - (i + 1))) = b * 256 ^ i + dv (y.drop (n - i)) := by
  have h1 : n - (i + 1) < (y.set (n - (i + 1)) b).length := by rw [List.length_set]; omega
  have h2 : n - (i + 1) + 1 = n - i := by omega
  rw [List.drop_eq_getElem_cons h1, List.getElem_set_self, h2, List.drop_set_of_lt (by omega), dv, List.length_drop]
  rw [show y.length - (n - i) = i by omega]
theorem text_l0 (l : List Int) (hl : lok l) (hlen : l.length ≤ 1099511627776) (d : Nat) : ∀ (i : Nat) (y : List Int), i + d = 4 * l.length → y.length = 4 * l.length → (∀ x ∈ y, 0 ≤ x ∧ x < 256) →
    dv (y.drop (4 * l.length - i)) = lv l % ((256 ^ i : Nat) : Int) → Ev (fun k => N1limbs_text.l0 k l y ((4 * l.length : Nat) : Int) (i : Int)) (enc (lv l).toNat) := by
  induction d with
  | zero =>
    intro i y hi hy hb hv
    have hi' : i = 4 * l.length := by omega
    subst hi'
    rw [Nat.sub_self, List.drop_zero] at hv
    have e1 : ((256 ^ (4 * l.length) : Nat) : Int) = BP l.length := by
      rw [BP_bytes, show 4 * l.length / 4 = l.length by omega, show 4 * l.length % 4 = 0 by omega]
      simp
    rw [e1, Int.emod_eq_of_lt (lv_nonneg hl) (lv_lt hl)] at hv
    have e2 := dv_bv y hb
    have e3 : sv (strOfNums y) = (lv l).toNat := by
      unfold sv
      omega
    have h := Normalize_ev (strOfNums y)
    rw [e3] at h
    refine Ev.succ (h := fun k => (N1Normalize.f k (strOfNums y)).bind fun t => some t) (fun k => ?_) (Ev.bind h (Ev.of fun _ => rfl))
    simp only [N1limbs_text.l0]
    rw [if_neg (ix_nlt (Nat.le_refl _))]
  | succ d ih =>
    intro i y hi hy hb hv
    have c1 : i ≤ 4611686018427387904 := by omega
    have c2 : i < y.length := by omega
    have c3 : y.length ≤ 4611686018427387904 := by omega
    have c4 : i < 4 * l.length := by omega
    have c5 : i / 4 < l.length := by omega
    have c6 : i + 1 + d = 4 * l.length := by omega
    have c7 : y.length - (i + 1) < y.length := by omega
    have c8 : 8 * (i % 4) ≤ 32 := by omega
    have hb0 := Int.emod_nonneg (rd l ((i / 4 : Nat) : Int) / 2 ^ (8 * (i % 4))) (show (256 : Int) ≠ 0 by decide)
    have hb1 := Int.emod_lt_of_pos (rd l ((i / 4 : Nat) : Int) / 2 ^ (8 * (i % 4))) (show (0 : Int) < 256 by decide)
    have h2 := ih (i + 1) (y.set (4 * l.length - (i + 1)) (rd l ((i / 4 : Nat) : Int) / 2 ^ (8 * (i % 4)) % 256)) c6 (by rw [List.length_set]; exact hy)
      (fun x hx => by
        rcases List.mem_or_eq_of_mem_set hx with hx | rfl
        · exact hb x hx
        · exact ⟨hb0, hb1⟩)
      (by
        rw [dv_set_drop y _ i _ hy c4, hv, mod_succ, lv_byte hl i c5, Int.natCast_pow]
        rfl)
    refine Ev.succ (fun k => ?_) h2
    simp only [N1limbs_text.l0]
    rw [ix_tdiv c1, ix_rev c2 c3, ix_tmod, ix_succ c1, if_pos (ix_lt c4), if_pos (ix_nn _), if_pos (ix_lt c5), if_pos (ix_nn _), if_pos (by exact_mod_cast c8), if_pos (ix_nn _), if_pos (ix_lt c7), Int.toNat_natCast, Int.toNat_natCast, hy]
theorem text_ev {l : List Int} (hl : lok l) (hlen : l.length ≤ 1099511627776) : Ev (fun k => N1limbs_text.f k l) (enc (lv l).toNat) := by
  have e : wrap64 ((l.length : Int) * 4) = ((4 * l.length : Nat) : Int) := by rw [w64 (by omega) (by omega)]; omega
  have h := text_l0 l hl hlen (4 * l.length) 0 (List.replicate (4 * l.length) 0) (by omega) (by simp) (fun x hx => by rw [(List.mem_replicate.1 hx).2]; decide) (by
    rw [Nat.sub_zero, List.drop_of_length_le (by simp)]
    rw [Nat.pow_zero]
    show (0 : Int) = lv l % 1
    omega)
  refine Ev.congr (fun k => ?_) h
  unfold N1limbs_text.f
  rw [e, if_pos (ix_nn _), Int.toNat_natCast, if_pos (by omega), Option.bind_some, List.length_replicate]
  rfl
def cmpI (a b : Int) : Int := if a < b then -1 else if b < a then 1 else 0
theorem lv_drop_rd {l : List Int} (j : Nat) (hj : j < l.length) : lv (l.drop j) = rd l (j : Int) + 4294967296 * lv (l.drop (j + 1)) := by
  rw [List.drop_eq_getElem_cons hj, lv, rd_nat, List.getD_eq_getElem?_getD, List.getElem?_eq_getElem hj]
  rfl
theorem lv_take_rd (l : List Int) (i : Nat) : lv (l.take (i + 1)) = lv (l.take i) + BP i * rd l (i : Int) := by
  by_cases h : i < l.length
  · rw [lv_take_succ l i h, rd_nat]
  · rw [List.take_of_length_le (by omega), List.take_of_length_le (by omega), rd_nat, List.getD_eq_getElem?_getD, List.getElem?_eq_none (by omega), Option.getD_none, Int.mul_zero, Int.add_zero]
theorem lv_set_take (l : List Int) (i : Nat) (v : Int) (h : i < l.length) : lv ((l.set i v).take (i + 1)) = lv (l.take i) + BP i * v := by
  rw [lv_take_rd, List.take_set_of_le (Nat.le_refl _), rd_nat, List.getD_eq_getElem?_getD, List.getElem?_set_self (by simpa using h), Option.getD_some]
theorem compare_l0 (x y : List Int) (hx : lok x) (hy : lok y) (n : Nat) (hn : n ≤ 1099511627776) (lx : x.length = n) (ly : y.length = n) (d : Nat) : ∀ k, d < k → d ≤ n → lv (x.drop d) = lv (y.drop d) →
    N1compare.l0 k x y ((d : Int) - 1) = some (cmpI (lv x) (lv y)) := by
  induction d with
  | zero =>
    intro k hk _ h
    obtain ⟨k, rfl⟩ : ∃ m, k = m + 1 := ⟨k - 1, by omega⟩
    rw [List.drop_zero, List.drop_zero] at h
    simp only [N1compare.l0]
    rw [if_neg (by decide), h]
    unfold cmpI
    rw [if_neg (by omega), if_neg (by omega)]
  | succ d ih =>
    intro k hk hd h
    obtain ⟨k, rfl⟩ : ∃ m, k = m + 1 := ⟨k - 1, by omega⟩
    have e : ((d + 1 : Nat) : Int) - 1 = (d : Int) := by omega
    have e1 : wrap64 ((d : Int) - 1) = (d : Int) - 1 := w64 (by omega) (by omega)
    have hxd := lv_drop_rd (l := x) d (by omega)
    have hyd := lv_drop_rd (l := y) d (by omega)
    rw [h] at hxd
    simp only [N1compare.l0]
    rw [e, e1, if_pos (ix_nn _), if_pos (ix_nn _), if_pos (ix_lt (by omega)), if_pos (ix_lt (by omega))]
    by_cases heq : rd x (d : Int) = rd y (d : Int)
    · rw [if_pos heq]
      exact ih k (by omega) (by omega) (by omega)
    · rw [if_neg heq]
      have sx := lv_split x d (by omega)
      have sy := lv_split y d (by omega)
      have tx0 := lv_nonneg (lok_take hx d)
      have ty0 := lv_nonneg (lok_take hy d)
      have tx1 := lv_lt (lok_take hx d)
      have ty1 := lv_lt (lok_take hy d)
      rw [List.length_take, Nat.min_eq_left (by omega)] at tx1 ty1
      have hP := BP_pos d
      by_cases hlt : rd x (d : Int) < rd y (d : Int)
      · rw [if_pos hlt]
        have h3 : BP d * (lv (x.drop d) + 1) ≤ BP d * lv (y.drop d) := Int.mul_le_mul_of_nonneg_left (by omega) (by omega)
        rw [Int.mul_add, Int.mul_one] at h3
        unfold cmpI
        rw [if_pos (by omega)]
      · rw [if_neg hlt]
        have h3 : BP d * (lv (y.drop d) + 1) ≤ BP d * lv (x.drop d) := Int.mul_le_mul_of_nonneg_left (by omega) (by omega)
        rw [Int.mul_add, Int.mul_one] at h3
        unfold cmpI
        rw [if_neg (by omega), if_pos (by omega)]
theorem compare_ev {x y : List Int} (hx : lcan x) (hy : lcan y) (lx : x.length ≤ 1099511627776) (ly : y.length ≤ 1099511627776) :
    Ev (fun k => N1compare.f k x y) (cmpI (lv x) (lv y)) := by
  by_cases h : x.length = y.length
  · refine ⟨x.length + 1, fun k hk => ?_⟩
    show N1compare.f k x y = _
    unfold N1compare.f
    have e : wrap64 ((x.length : Int) - 1) = (x.length : Int) - 1 := w64 (by omega) (by omega)
    rw [if_pos (by omega), e]
    exact compare_l0 x y hx.1 hy.1 x.length lx rfl h.symm x.length k (by omega) (Nat.le_refl _) (by rw [List.drop_length, h, List.drop_length])
  · refine Ev.of fun k => ?_
    unfold N1compare.f N1sign.f
    have e : wrap64 ((x.length : Int) - (y.length : Int)) = (x.length : Int) - (y.length : Int) := w64 (by omega) (by omega)
    rw [if_neg (by omega), e]
    have h1 := fun g => lcan_len hx hy.1 g
    have h2 := fun g => lcan_len hy hx.1 g
    unfold cmpI
    by_cases hlt : x.length < y.length
    · have h3 : lv x < lv y := by
        refine Int.not_le.1 fun g => ?_
        have := h2 g
        omega
      rw [if_pos (by omega), if_pos h3]
      rfl
    · have h3 : lv y < lv x := by
        refine Int.not_le.1 fun g => ?_
        have := h1 g
        omega
      rw [if_neg (by omega), if_pos (by omega), if_neg (by omega), if_pos h3]
      rfl
theorem Add32_is {a b c : Int} (ha : 0 ≤ a ∧ a < 4294967296) (hb : 0 ≤ b ∧ b < 4294967296) (hc : 0 ≤ c ∧ c ≤ 1) :
    bits_Add32.f a b c = some ((a + b + c) % 4294967296, (a + b + c) / 4294967296) := by
  unfold bits_Add32.f
  rw [wu64 a (by omega) (by omega), wu64 b (by omega) (by omega), wu64 c (by omega) (by omega), wu64 (a + b) (by omega) (by omega), wu64 (a + b + c) (by omega) (by omega)]
  congr 2
  omega
theorem rd_out {l : List Int} {i : Nat} (h : l.length ≤ i) : rd l (i : Int) = 0 := by
  rw [rd_nat, List.getD_eq_getElem?_getD, List.getElem?_eq_none h]; rfl
theorem add_l0 (x y : List Int) (hx : lok x) (hy : lok y) (lx : x.length ≤ 549755813888) (lyx : y.length ≤ x.length) (d : Nat) : ∀ (i : Nat) (z : List Int) (c : Int), i + d = x.length → lok z → z.length = x.length + 1 → 0 ≤ c ∧ c ≤ 1 →
    lv (z.take i) + BP i * c = lv (x.take i) + lv (y.take i) → Ev (fun k => N1Add.l0 k x y z c (x.length : Int) (i : Int)) (enc (lv x + lv y).toNat) := by
  induction d with
  | zero =>
    intro i z c hi hz lz hc hv
    have hi' : i = x.length := by omega
    subst hi'
    have hc1 : c < 4294967296 := by omega
    have hzl : x.length < z.length := by omega
    have hzl1 : z.length ≤ x.length + 1 := by omega
    have hzs : lok (z.set x.length c) := lok_set hz hc.1 hc1 _
    have hval : lv (z.set x.length c) = lv x + lv y := by
      have h1 := lv_set_take z x.length c hzl
      rw [List.take_of_length_le (by rw [List.length_set]; exact hzl1)] at h1
      rw [h1, hv, List.take_of_length_le (Nat.le_refl _), List.take_of_length_le lyx]
    have ht := text_ev hzs (by rw [List.length_set]; omega)
    rw [hval] at ht
    refine Ev.succ (h := fun k => (N1limbs_text.f k (z.set x.length c)).bind fun t => some t) (fun k => ?_) (Ev.bind ht (Ev.of fun _ => rfl))
    simp only [N1Add.l0]
    rw [if_neg (ix_nlt (Nat.le_refl _)), if_pos (ix_nn _), if_pos (ix_lt (by omega)), Int.toNat_natCast]
  | succ d ih =>
    intro i z c hi hz lz hc hv
    have c1 : i ≤ 4611686018427387904 := by omega
    have c2 : i < x.length := by omega
    have c3 : i < z.length := by omega
    have c4 : i + 1 + d = x.length := by omega
    have ha := rd_ok hx (i : Int)
    have hb := rd_ok hy (i : Int)
    have hadd := Add32_is ha hb hc
    have h2 := ih (i + 1) (z.set i ((rd x (i : Int) + rd y (i : Int) + c) % 4294967296)) ((rd x (i : Int) + rd y (i : Int) + c) / 4294967296) c4
      (lok_set hz (by omega) (by omega) _) (by rw [List.length_set]; exact lz) (by omega)
      (by
        rw [lv_set_take z i _ c3, lv_take_rd x, lv_take_rd y, BP_succ]
        have e : (rd x (i : Int) + rd y (i : Int) + c) % 4294967296 + 4294967296 * ((rd x (i : Int) + rd y (i : Int) + c) / 4294967296) = rd x (i : Int) + rd y (i : Int) + c := by omega
        revert hv e
        generalize (rd x (i : Int) + rd y (i : Int) + c) % 4294967296 = m
        generalize (rd x (i : Int) + rd y (i : Int) + c) / 4294967296 = q
        generalize rd x (i : Int) = a
        generalize rd y (i : Int) = b
        intro hv e
        grind)
    refine Ev.succ (fun k => ?_) h2
    simp only [N1Add.l0]
    rw [if_pos (ix_lt c2), ix_succ c1]
    by_cases hyi : i < y.length
    · rw [if_pos (ix_lt hyi), if_pos (ix_nn _), if_pos (ix_lt c2), hadd, Option.bind_some, if_pos (ix_lt c3), Int.toNat_natCast]
    · rw [if_neg (ix_nlt (by omega)), if_pos (ix_nn _), if_pos (ix_lt c2), ← rd_out (l := y) (i := i) (by omega), hadd, Option.bind_some, if_pos (ix_lt c3), Int.toNat_natCast]
theorem add_j0 (x y : List Int) (hx : lok x) (hy : lok y) (lx : x.length ≤ 549755813888) (lyx : y.length ≤ x.length) : Ev (fun k => N1Add.j0 k x y) (enc (lv x + lv y).toNat) := by
  have h := add_l0 x y hx hy lx lyx x.length 0 (List.replicate (x.length + 1) 0) 0 (by omega) (lok_replicate _) List.length_replicate ⟨by decide, by decide⟩ (by rw [Int.mul_zero]; rfl)
  refine Ev.succ (fun k => ?_) h
  simp only [N1Add.j0]
  rw [ix_succ (by omega), if_pos (ix_nn _), Int.toNat_natCast, if_pos (by omega)]
  rfl
theorem lm_len (n m : Nat) (h : n < 4294967296 ^ m) : (lm n).length ≤ m := by
  by_cases hn : lm n = []
  · rw [hn]; exact Nat.zero_le _
  · have h1 := lcan_pos (lm_can n) hn
    rw [lm_lv] at h1
    have h2 : ((n : Nat) : Int) < BP m := by
      have e : ((4294967296 ^ m : Nat) : Int) = BP m := Int.natCast_pow _ _
      rw [← e]
      exact Int.ofNat_lt.2 h
    have := BP_lt_of (show BP ((lm n).length - 1) < BP m by omega)
    omega
theorem lm_sv_len' (s : ByteArray) : (lm (sv s)).length ≤ (s.size + 3) / 4 := by
  refine lm_len _ _ (Nat.lt_of_lt_of_le (sv_lt s) ?_)
  rw [show (4294967296 : Nat) = 256 ^ 4 from rfl, ← Nat.pow_mul]
  exact Nat.pow_le_pow_right (by decide) (by omega)
theorem lm_sv_len (s : ByteArray) (hs : s.size ≤ 1099511627776) : (lm (sv s)).length ≤ 274877906944 := by
  have := lm_sv_len' s
  omega
theorem Add_ev (a b : ByteArray) (ha : a.size ≤ 1099511627776) (hb : b.size ≤ 1099511627776) : Ev (fun k => N1Add.f k a b) (enc (sv a + sv b)) := by
  unfold N1Add.f
  have la := lm_sv_len a ha
  have lb := lm_sv_len b hb
  refine Ev.bind (parse_ev a ha) (Ev.bind (parse_ev b hb) ?_)
  by_cases h : (lm (sv a)).length < (lm (sv b)).length
  · have h1 := add_j0 (lm (sv b)) (lm (sv a)) (lm_can _).1 (lm_can _).1 (by omega) (by omega)
    rw [lm_lv, lm_lv, Int.add_comm, ← Int.natCast_add, Int.toNat_natCast] at h1
    simp only [if_pos (ix_lt h)]
    exact h1
  · have h1 := add_j0 (lm (sv a)) (lm (sv b)) (lm_can _).1 (lm_can _).1 (by omega) (by omega)
    rw [lm_lv, lm_lv, ← Int.natCast_add, Int.toNat_natCast] at h1
    simp only [if_neg (ix_nlt (Nat.not_lt.1 h))]
    exact h1
theorem nat_top_and (a b : Nat) : (a &&& b) / 2147483648 = (a / 2147483648) &&& (b / 2147483648) := by
  have := Nat.shiftRight_and_distrib (a := a) (b := b) (i := 31)
  simpa [Nat.shiftRight_eq_div_pow] using this
theorem nat_top_or (a b : Nat) : (a ||| b) / 2147483648 = (a / 2147483648) ||| (b / 2147483648) := by
  have := Nat.shiftRight_or_distrib (a := a) (b := b) (i := 31)
  simpa [Nat.shiftRight_eq_div_pow] using this
theorem nat_top_xor (a b : Nat) : (a ^^^ b) / 2147483648 = (a / 2147483648) ^^^ (b / 2147483648) := by
  have := Nat.shiftRight_xor_distrib (a := a) (b := b) (i := 31)
  simpa [Nat.shiftRight_eq_div_pow] using this
theorem bits_xor32 (a b : Nat) (ha : a < 2 ^ 32) (hb : b < 2 ^ 32) : Go.bits .xor .u32 a b = ((a ^^^ b : Nat) : Int) := by
  have ha' : a % 2 ^ IntKind.u32.bits = a := Nat.mod_eq_of_lt ha
  have hb' : b % 2 ^ IntKind.u32.bits = b := Nat.mod_eq_of_lt hb
  simp only [Go.bits, BitVec.ofInt_natCast, BitVec.toNat_xor, BitVec.toNat_ofNat, ha', hb']
  exact wu32 _ (Int.natCast_nonneg _) (by have := Nat.xor_lt_two_pow ha hb; omega)
theorem bits_and32 (a b : Nat) (ha : a < 2 ^ 32) (hb : b < 2 ^ 32) : Go.bits .and .u32 a b = ((a &&& b : Nat) : Int) := (bits_nat .u32 32 (by decide) wraps_u32 a b ha hb).1
theorem bits_or32 (a b : Nat) (ha : a < 2 ^ 32) (hb : b < 2 ^ 32) : Go.bits .or .u32 a b = ((a ||| b : Nat) : Int) := (bits_nat .u32 32 (by decide) wraps_u32 a b ha hb).2
theorem top_cases (p q r : Nat) (hp : p ≤ 1) (hq : q ≤ 1) (hr : r ≤ 1) : (((1 ^^^ p) &&& q) ||| ((1 ^^^ (p ^^^ q)) &&& r)) = if p = q then r else q := by
  have h1 : p = 0 ∨ p = 1 := by omega
  have h2 : q = 0 ∨ q = 1 := by omega
  have h3 : r = 0 ∨ r = 1 := by omega
  rcases h1 with rfl | rfl <;> rcases h2 with rfl | rfl <;> rcases h3 with rfl | rfl <;> rfl
theorem borrow_is (a b d : Nat) (ha : a < 2 ^ 32) (hb : b < 2 ^ 32) (hd : d < 2 ^ 32) :
    Go.bits .or .u32 (Go.bits .and .u32 (Go.bits .xor .u32 4294967295 a) b) (Go.bits .and .u32 (Go.bits .xor .u32 4294967295 (Go.bits .xor .u32 a b)) d) / 2147483648 =
      ((if a / 2147483648 = b / 2147483648 then d / 2147483648 else b / 2147483648 : Nat) : Int) := by
  have hm : (4294967295 : Nat) < 2 ^ 32 := by decide
  have x1 : 4294967295 ^^^ a < 2 ^ 32 := Nat.xor_lt_two_pow hm ha
  have x2 : a ^^^ b < 2 ^ 32 := Nat.xor_lt_two_pow ha hb
  have x3 : 4294967295 ^^^ (a ^^^ b) < 2 ^ 32 := Nat.xor_lt_two_pow hm x2
  have x4 : (4294967295 ^^^ a) &&& b < 2 ^ 32 := Nat.and_lt_two_pow _ hb
  have x5 : (4294967295 ^^^ (a ^^^ b)) &&& d < 2 ^ 32 := Nat.and_lt_two_pow _ hd
  have e1 : Go.bits .xor .u32 4294967295 (a : Int) = ((4294967295 ^^^ a : Nat) : Int) := bits_xor32 4294967295 a hm ha
  rw [e1, bits_and32 _ _ x1 hb, bits_xor32 a b ha hb]
  have e2 : Go.bits .xor .u32 4294967295 ((a ^^^ b : Nat) : Int) = ((4294967295 ^^^ (a ^^^ b) : Nat) : Int) := bits_xor32 4294967295 _ hm x2
  rw [e2, bits_and32 _ _ x3 hd, bits_or32 _ _ x4 x5]
  have e3 : (((4294967295 ^^^ a) &&& b ||| (4294967295 ^^^ (a ^^^ b)) &&& d) / 2147483648 : Nat) = if a / 2147483648 = b / 2147483648 then d / 2147483648 else b / 2147483648 := by
    rw [nat_top_or, nat_top_and, nat_top_and, nat_top_xor, nat_top_xor, nat_top_xor]
    exact top_cases _ _ _ (by omega) (by omega) (by omega)
  rw [← e3]
  rfl
theorem Sub32_is {a b c : Int} (ha : 0 ≤ a ∧ a < 4294967296) (hb : 0 ≤ b ∧ b < 4294967296) (hc : 0 ≤ c ∧ c ≤ 1) :
    bits_Sub32.f a b c = some ((a - b - c) % 4294967296, if a - b - c < 0 then 1 else 0) := by
  obtain ⟨a, rfl⟩ := Int.eq_ofNat_of_zero_le ha.1
  obtain ⟨b, rfl⟩ := Int.eq_ofNat_of_zero_le hb.1
  obtain ⟨c, rfl⟩ := Int.eq_ofNat_of_zero_le hc.1
  have hd : ((((a : Int) - b) % 4294967296 - c) % 4294967296) = ((((a : Int) - b) % 4294967296 - c) % 4294967296).toNat := by omega
  have hd2 : ((((a : Int) - b) % 4294967296 - c) % 4294967296).toNat < 2 ^ 32 := by omega
  unfold bits_Sub32.f
  rw [hd, borrow_is a b _ (by omega) (by omega) hd2]
  generalize hg : ((((a : Int) - b) % 4294967296 - c) % 4294967296).toNat = d at hd hd2 ⊢
  have e1 : (d : Int) = ((a : Int) - b - c) % 4294967296 := by omega
  rw [e1]
  congr 2
  split <;> split <;> omega
theorem sub_l0 (x y : List Int) (hx : lok x) (hy : lok y) (lx : x.length ≤ 549755813888) (lyx : y.length ≤ x.length) (hxy : lv y ≤ lv x) (d : Nat) : ∀ (i : Nat) (z : List Int) (c : Int), i + d = x.length → lok z → z.length = x.length → 0 ≤ c ∧ c ≤ 1 →
    lv (z.take i) = lv (x.take i) - lv (y.take i) + BP i * c → Ev (fun k => N1subtract.l0 k x y z c (x.length : Int) (i : Int)) (lm (lv x - lv y).toNat) := by
  induction d with
  | zero =>
    intro i z c hi hz lz hc hv
    have hi' : i = x.length := by omega
    subst hi'
    have hval : lv z = lv x - lv y := by
      rw [List.take_of_length_le (Nat.le_of_eq lz), List.take_of_length_le (Nat.le_refl _), List.take_of_length_le lyx] at hv
      have h1 := lv_lt hz
      rw [lz] at h1
      have h2 : c = 0 := by
        refine Classical.byContradiction fun h => ?_
        have h3 : c = 1 := by omega
        rw [h3, Int.mul_one] at hv
        omega
      rw [h2, Int.mul_zero, Int.add_zero] at hv
      exact hv
    have lz2 : z.length ≤ 70368744177664 := by omega
    have ht := trim_ev hz lz2
    rw [hval] at ht
    refine Ev.succ (h := fun k => (N1limbs_trim.f k z).bind fun t => some t) (fun k => ?_) (Ev.bind ht (Ev.of fun _ => rfl))
    simp only [N1subtract.l0]
    rw [if_neg (ix_nlt (Nat.le_refl _))]
  | succ d ih =>
    intro i z c hi hz lz hc hv
    have c1 : i ≤ 4611686018427387904 := by omega
    have c2 : i < x.length := by omega
    have c3 : i < z.length := by omega
    have c4 : i + 1 + d = x.length := by omega
    have ha := rd_ok hx (i : Int)
    have hb := rd_ok hy (i : Int)
    have hsub := Sub32_is ha hb hc
    have h2 := ih (i + 1) (z.set i ((rd x (i : Int) - rd y (i : Int) - c) % 4294967296)) (if rd x (i : Int) - rd y (i : Int) - c < 0 then 1 else 0) c4
      (lok_set hz (by omega) (by omega) _) (by rw [List.length_set]; exact lz) (by split <;> decide)
      (by
        rw [lv_set_take z i _ c3, lv_take_rd x, lv_take_rd y, BP_succ]
        have e : (rd x (i : Int) - rd y (i : Int) - c) % 4294967296 = rd x (i : Int) - rd y (i : Int) - c + 4294967296 * (if rd x (i : Int) - rd y (i : Int) - c < 0 then 1 else 0) := by split <;> omega
        rw [e, hv]
        generalize (if rd x (i : Int) - rd y (i : Int) - c < 0 then (1 : Int) else 0) = q
        generalize rd x (i : Int) = a
        generalize rd y (i : Int) = b
        grind)
    refine Ev.succ (fun k => ?_) h2
    simp only [N1subtract.l0]
    rw [if_pos (ix_lt c2), ix_succ c1]
    by_cases hyi : i < y.length
    · rw [if_pos (ix_lt hyi), if_pos (ix_nn _), if_pos (ix_lt c2), hsub, Option.bind_some, if_pos (ix_lt c3), Int.toNat_natCast]
    · have e0 := rd_out (l := y) (i := i) (by omega)
      have hsub0 : bits_Sub32.f (rd x (i : Int)) 0 c = some ((rd x (i : Int) - rd y (i : Int) - c) % 4294967296, if rd x (i : Int) - rd y (i : Int) - c < 0 then 1 else 0) := by
        have h := hsub
        rw [e0] at h ⊢
        exact h
      rw [if_neg (ix_nlt (by omega)), if_pos (ix_nn _), if_pos (ix_lt c2), hsub0, Option.bind_some, if_pos (ix_lt c3), Int.toNat_natCast]
theorem subtract_ev {x y : List Int} (hx : lcan x) (hy : lcan y) (lx : x.length ≤ 549755813888) (hxy : lv y ≤ lv x) : Ev (fun k => N1subtract.f k x y) (lm (lv x - lv y).toNat) := by
  have h := sub_l0 x y hx.1 hy.1 lx (lcan_len hy hx.1 hxy) hxy x.length 0 (List.replicate x.length 0) 0 (by omega) (lok_replicate _) List.length_replicate ⟨by decide, by decide⟩ (by rw [Int.mul_zero]; rfl)
  refine Ev.congr (fun k => ?_) h
  unfold N1subtract.f
  rw [if_pos (ix_nn _), Int.toNat_natCast, if_pos (by omega)]
  rfl
theorem lm_text_ev {n : Nat} (hlen : (lm n).length ≤ 1099511627776) : Ev (fun k => N1limbs_text.f k (lm n)) (enc n) := by
  have := text_ev (lm_can n).1 hlen
  rw [lm_lv, Int.toNat_natCast] at this
  exact this
theorem Subtract_ev (a b : ByteArray) (ha : a.size ≤ 1099511627776) (hb : b.size ≤ 1099511627776) :
    Ev (fun k => N1Subtract.f k a b) (if sv b ≤ sv a then (enc (sv a - sv b), true) else (⟨#[]⟩, false)) := by
  unfold N1Subtract.f
  have la := lm_sv_len a ha
  have lb := lm_sv_len b hb
  have la1 : (lm (sv a)).length ≤ 1099511627776 := by omega
  have lb1 : (lm (sv b)).length ≤ 1099511627776 := by omega
  have la2 : (lm (sv a)).length ≤ 549755813888 := by omega
  have hc := compare_ev (lm_can (sv a)) (lm_can (sv b)) la1 lb1
  rw [lm_lv, lm_lv] at hc
  refine Ev.bind (parse_ev a ha) (Ev.bind (parse_ev b hb) (Ev.bind hc ?_))
  by_cases h : sv b ≤ sv a
  · have hneg : ¬ cmpI (sv a) (sv b) < 0 := by
      unfold cmpI
      rw [if_neg (by omega)]
      split <;> omega
    simp only [if_neg hneg, if_pos h]
    have hs := subtract_ev (lm_can (sv a)) (lm_can (sv b)) la2 (by rw [lm_lv, lm_lv]; omega)
    rw [lm_lv, lm_lv, show ((sv a : Int) - (sv b : Int)).toNat = sv a - sv b by omega] at hs
    have hl : (lm (sv a - sv b)).length ≤ 1099511627776 := by
      have := lcan_len (lm_can (sv a - sv b)) (lm_can (sv a)).1 (by rw [lm_lv, lm_lv]; omega)
      omega
    exact Ev.bind hs (Ev.bind (lm_text_ev hl) (Ev.of fun _ => rfl))
  · have hneg : cmpI (sv a) (sv b) < 0 := by
      unfold cmpI
      rw [if_pos (by omega)]
      decide
    simp only [if_pos hneg, if_neg h]
    exact Ev.of fun _ => rfl
theorem FromUint_ev (u : Nat) (hu : u < 18446744073709551616) : Ev (fun k => N1FromUint.f k (u : Int)) (enc u) := by
  unfold N1FromUint.f
  have hl : lok [(u : Int) % 4294967296, (u : Int) / 4294967296 % 4294967296] := lok_cons (by omega) (by omega) (lok_cons (by omega) (by omega) lok_nil)
  have ht := text_ev hl (show 2 ≤ 1099511627776 by decide)
  have e : (lv [(u : Int) % 4294967296, (u : Int) / 4294967296 % 4294967296]).toNat = u := by simp only [lv]; omega
  rw [e] at ht
  exact Ev.bind ht (Ev.of fun _ => rfl)
theorem mul_limb {u v o c : Int} (hu : 0 ≤ u ∧ u < 4294967296) (hv : 0 ≤ v ∧ v < 4294967296) (ho : 0 ≤ o ∧ o < 4294967296) (hc : 0 ≤ c ∧ c < 4294967296) :
    0 ≤ u * v + o + c ∧ u * v + o + c < 18446744073709551616 ∧ 0 ≤ u * v ∧ u * v ≤ 18446744065119617025 := by
  have h1 : 0 ≤ u * v := Int.mul_nonneg hu.1 hv.1
  have h2 : u * v ≤ 4294967295 * 4294967295 := Int.mul_le_mul (by omega) (by omega) hv.1 (by decide)
  omega
theorem mul_wrap {u v o c : Int} (hu : 0 ≤ u ∧ u < 4294967296) (hv : 0 ≤ v ∧ v < 4294967296) (ho : 0 ≤ o ∧ o < 4294967296) (hc : 0 ≤ c ∧ c < 4294967296) :
    IntKind.u64.wrap (IntKind.u64.wrap (IntKind.u64.wrap (IntKind.u64.wrap u * IntKind.u64.wrap v) + IntKind.u64.wrap o) + c) = u * v + o + c := by
  have h := mul_limb hu hv ho hc
  rw [wu64 u (by omega) (by omega), wu64 v (by omega) (by omega), wu64 o (by omega) (by omega), wu64 (u * v) (by omega) (by omega), wu64 (u * v + o) (by omega) (by omega), wu64 (u * v + o + c) (by omega) (by omega)]
theorem rd_set_ne (l : List Int) {i j : Nat} (v : Int) (h : i ≠ j) : rd (l.set i v) (j : Int) = rd l (j : Int) := by
  rw [rd_nat, rd_nat, List.getD_eq_getElem?_getD, List.getD_eq_getElem?_getD, List.getElem?_set_ne h]
theorem mul_l1 (x y : List Int) (hx : lok x) (hy : lok y) (lx : x.length ≤ 274877906944) (ly : y.length ≤ 274877906944) (i : Nat) (hi : i < x.length) (V : Int) (o0 : List Int)
    (H : ∀ o, lok o → o.length = x.length + y.length → lv o = V + BP i * (rd x (i : Int) * lv y) → Ev (fun k => N1Multiply.l0 k y o x (x.length : Int) ((i + 1 : Nat) : Int)) (enc (lv x * lv y).toNat))
    (hz : rd o0 ((i + y.length : Nat) : Int) = 0) (d : Nat) : ∀ (j : Nat) (o : List Int) (c : Int), j + d = y.length → lok o → o.length = x.length + y.length → 0 ≤ c ∧ c < 4294967296 →
    lv o + BP (i + j) * c = V + BP i * (rd x (i : Int) * lv (y.take j)) → (∀ m : Nat, i + j ≤ m → rd o (m : Int) = rd o0 (m : Int)) →
    Ev (fun k => N1Multiply.l1 k y o (i : Int) (rd x (i : Int)) c x (x.length : Int) (i : Int) y (y.length : Int) (j : Int)) (enc (lv x * lv y).toNat) := by
  induction d with
  | zero =>
    intro j o c hj ho lo hc hv hs
    have hj' : j = y.length := by omega
    subst hj'
    have c1 : i + y.length < o.length := by omega
    have c2 : i + y.length ≤ 4611686018427387904 := by omega
    have c3 : i ≤ 4611686018427387904 := by omega
    have h1 := H (o.set (i + y.length) c) (lok_set ho hc.1 hc.2 _) (by rw [List.length_set]; exact lo) (by
      rw [lv_set _ _ _ c1, ← rd_nat, hs _ (Nat.le_refl _), hz, Int.sub_zero, hv, List.take_of_length_le (Nat.le_refl _)])
    refine Ev.succ (fun k => ?_) h1
    simp only [N1Multiply.l1]
    have e : c % 4294967296 = c := Int.emod_eq_of_lt hc.1 hc.2
    rw [if_neg (ix_nlt (Nat.le_refl _)), ix_add c2, ix_succ c3, if_pos (ix_nn _), if_pos (ix_lt c1), Int.toNat_natCast, e]
  | succ d ih =>
    intro j o c hj ho lo hc hv hs
    have c1 : j < y.length := by omega
    have c2 : i + j < o.length := by omega
    have c3 : i + j ≤ 4611686018427387904 := by omega
    have c4 : j ≤ 4611686018427387904 := by omega
    have c5 : j + 1 + d = y.length := by omega
    have hu := rd_ok hx (i : Int)
    have hvv := rd_ok hy (j : Int)
    have hoo := rd_ok ho ((i + j : Nat) : Int)
    have hb := mul_limb hu hvv hoo hc
    have hw := mul_wrap hu hvv hoo hc
    have q0 : 0 ≤ (rd x (i : Int) * rd y (j : Int) + rd o ((i + j : Nat) : Int) + c) % 4294967296 := Int.emod_nonneg _ (by decide)
    have q1 := Int.emod_lt_of_pos (rd x (i : Int) * rd y (j : Int) + rd o ((i + j : Nat) : Int) + c) (show (0 : Int) < 4294967296 by decide)
    have q2 : 0 ≤ (rd x (i : Int) * rd y (j : Int) + rd o ((i + j : Nat) : Int) + c) / 4294967296 ∧ (rd x (i : Int) * rd y (j : Int) + rd o ((i + j : Nat) : Int) + c) / 4294967296 < 4294967296 := by
      revert hb
      generalize rd x (i : Int) * rd y (j : Int) + rd o ((i + j : Nat) : Int) + c = t
      intro hb
      omega
    have h2 := ih (j + 1) (o.set (i + j) ((rd x (i : Int) * rd y (j : Int) + rd o ((i + j : Nat) : Int) + c) % 4294967296)) ((rd x (i : Int) * rd y (j : Int) + rd o ((i + j : Nat) : Int) + c) / 4294967296) c5
      (lok_set ho q0 q1 _) (by rw [List.length_set]; exact lo) q2
      (by
        rw [lv_set _ _ _ c2, ← rd_nat, lv_take_rd y, ← Nat.add_assoc, BP_succ]
        have e := Int.mul_ediv_add_emod (rd x (i : Int) * rd y (j : Int) + rd o ((i + j : Nat) : Int) + c) 4294967296
        have eB : BP (i + j) = BP i * BP j := BP_add i j
        revert hv e
        rw [eB]
        generalize (rd x (i : Int) * rd y (j : Int) + rd o ((i + j : Nat) : Int) + c) % 4294967296 = m
        generalize (rd x (i : Int) * rd y (j : Int) + rd o ((i + j : Nat) : Int) + c) / 4294967296 = q
        generalize rd x (i : Int) = a
        generalize rd y (j : Int) = b
        generalize rd o ((i + j : Nat) : Int) = r
        intro hv e
        grind)
      (fun m hm => by rw [rd_set_ne _ _ (by omega)]; exact hs m (by omega))
    refine Ev.succ (fun k => ?_) h2
    simp only [N1Multiply.l1]
    rw [if_pos (ix_lt c1), if_pos (ix_nn _), if_pos (ix_lt c1), ix_add c3, ix_succ c4, if_pos (ix_nn _), if_pos (ix_lt c2), hw, Int.toNat_natCast]
theorem mul_l0 (x y : List Int) (hx : lok x) (hy : lok y) (lx : x.length ≤ 274877906944) (ly : y.length ≤ 274877906944) (d : Nat) : ∀ (i : Nat) (o : List Int), i + d = x.length → lok o → o.length = x.length + y.length →
    lv o = lv (x.take i) * lv y → Ev (fun k => N1Multiply.l0 k y o x (x.length : Int) (i : Int)) (enc (lv x * lv y).toNat) := by
  induction d with
  | zero =>
    intro i o hi ho lo hv
    have hi' : i = x.length := by omega
    subst hi'
    rw [List.take_of_length_le (Nat.le_refl _)] at hv
    have lo2 : o.length ≤ 1099511627776 := by omega
    have ht := text_ev ho lo2
    rw [hv] at ht
    refine Ev.succ (h := fun k => (N1limbs_text.f k o).bind fun t => some t) (fun k => ?_) (Ev.bind ht (Ev.of fun _ => rfl))
    simp only [N1Multiply.l0]
    rw [if_neg (ix_nlt (Nat.le_refl _))]
  | succ d ih =>
    intro i o hi ho lo hv
    have c1 : i < x.length := by omega
    have c2 : i + 1 + d = x.length := by omega
    have hz : rd o ((i + y.length : Nat) : Int) = 0 := by
      have h1 := lv_lt (lok_take hx i)
      rw [List.length_take, Nat.min_eq_left (Nat.le_of_lt c1)] at h1
      have h2 := lv_lt hy
      have h3 := lv_nonneg (lok_take hx i)
      have h4 := lv_nonneg hy
      have h5 : lv o < BP (i + y.length) * 1 := by
        rw [Int.mul_one, hv, BP_add]
        have hP := BP_pos i
        have hQ := BP_pos y.length
        have h6 : lv (x.take i) * lv y ≤ lv (x.take i) * BP y.length := Int.mul_le_mul_of_nonneg_left (by omega) h3
        have h7 : lv (x.take i) * BP y.length < BP i * BP y.length := Int.mul_lt_mul_of_pos_right h1 hQ
        omega
      have h6 := rd_lt_of ho (i + y.length) 1 h5
      have h7 := (rd_ok ho ((i + y.length : Nat) : Int)).1
      omega
    have h1 := mul_l1 x y hx hy lx ly i c1 (lv o) o (fun o' ho' lo' hv' => ih (i + 1) o' c2 ho' lo' (by rw [hv', hv, lv_take_rd x]; grind)) hz y.length 0 o 0 (by omega) ho lo ⟨by decide, by decide⟩
      (by rw [List.take_zero]; show lv o + BP (i + 0) * 0 = lv o + BP i * (rd x (i : Int) * 0); rw [Int.mul_zero, Int.mul_zero, Int.mul_zero]) (fun m _ => rfl)
    refine Ev.succ (fun k => ?_) h1
    simp only [N1Multiply.l0]
    rw [if_pos (ix_lt c1), if_pos (ix_nn _), if_pos (ix_lt c1)]
    rfl
theorem Multiply_ev (a b : ByteArray) (ha : a.size ≤ 1099511627776) (hb : b.size ≤ 1099511627776) : Ev (fun k => N1Multiply.f k a b) (enc (sv a * sv b)) := by
  unfold N1Multiply.f
  have la := lm_sv_len a ha
  have lb := lm_sv_len b hb
  refine Ev.bind (parse_ev a ha) (Ev.bind (parse_ev b hb) ?_)
  have h := mul_l0 (lm (sv a)) (lm (sv b)) (lm_can _).1 (lm_can _).1 la lb (lm (sv a)).length 0 (List.replicate ((lm (sv a)).length + (lm (sv b)).length) 0) (by omega) (lok_replicate _) List.length_replicate
    (by rw [lv_replicate, List.take_zero]; show (0 : Int) = 0 * _; rw [Int.zero_mul])
  rw [lm_lv, lm_lv, ← Int.natCast_mul, Int.toNat_natCast] at h
  refine Ev.congr (fun k => ?_) h
  rw [ix_add (by omega), if_pos (ix_nn _), Int.toNat_natCast, if_pos (by omega)]
  rfl
theorem div_limb {r a d : Int} (hd : 0 < d) (hd1 : d < 4294967296) (hr : 0 ≤ r ∧ r < d) (ha : 0 ≤ a ∧ a < 4294967296) :
    0 ≤ (r * 4294967296 + a) / d ∧ (r * 4294967296 + a) / d < 4294967296 ∧ 0 ≤ (r * 4294967296 + a) % d ∧ (r * 4294967296 + a) % d < d := by
  refine ⟨Int.ediv_nonneg (by omega) (by omega), Int.ediv_lt_of_lt_mul hd ?_, Int.emod_nonneg _ (by omega), Int.emod_lt_of_pos _ hd⟩
  omega
theorem divideSmall_l0 (a : List Int) (ha : lok a) (la : a.length ≤ 1099511627776) (d : Int) (hd : 0 < d) (hd1 : d < 4294967296) (j : Nat) : ∀ (o : List Int) (r : Int), j ≤ a.length → lok o → o.length = a.length → 0 ≤ r ∧ r < d →
    lv (a.drop j) = d * lv (o.drop j) + r → Ev (fun k => N1divideSmall.l0 k a d o r ((j : Int) - 1)) (lm (lv a / d).toNat, lv a % d) := by
  induction j with
  | zero =>
    intro o r _ ho lo hr hv
    rw [List.drop_zero, List.drop_zero] at hv
    have lo2 : o.length ≤ 70368744177664 := by omega
    have ht := trim_ev ho lo2
    have e1 : lv a / d = lv o := by
      rw [hv, Int.add_comm, Int.add_mul_ediv_left _ _ (by omega), Int.ediv_eq_zero_of_lt hr.1 hr.2, Int.zero_add]
    have e2 : lv a % d = r := by
      rw [hv, Int.add_comm, Int.add_mul_emod_self_left, Int.emod_eq_of_lt hr.1 hr.2]
    rw [e1, e2]
    have e3 : r % 4294967296 = r := Int.emod_eq_of_lt hr.1 (by omega)
    refine Ev.succ (h := fun k => (N1limbs_trim.f k o).bind fun t => some (t, r)) (fun k => ?_) (Ev.bind ht (Ev.of fun _ => rfl))
    simp only [N1divideSmall.l0]
    rw [if_neg (by decide), e3]
  | succ j ih =>
    intro o r hj ho lo hr hv
    have c1 : j < a.length := by omega
    have c2 : j < o.length := by omega
    have c3 : j ≤ a.length := by omega
    have e : ((j + 1 : Nat) : Int) - 1 = (j : Int) := by omega
    have e1 : wrap64 ((j : Int) - 1) = (j : Int) - 1 := w64 (by omega) (by omega)
    have hal := rd_ok ha (j : Int)
    have hb := div_limb hd hd1 hr hal
    have w1 : IntKind.u64.wrap d = d := wu64 d (by omega) (by omega)
    have w2 : IntKind.u64.wrap (r * 4294967296) = r * 4294967296 := wu64 _ (by omega) (by omega)
    have w3 : IntKind.u64.wrap (rd a (j : Int)) = rd a (j : Int) := wu64 _ (by omega) (by omega)
    have w4 : Go.bits .or .u64 (r * 4294967296) (rd a (j : Int)) = r * 4294967296 + rd a (j : Int) := or64 hr.1 (by omega) hal.1 hal.2
    have w5 : Int.tdiv (r * 4294967296 + rd a (j : Int)) d = (r * 4294967296 + rd a (j : Int)) / d := Int.tdiv_eq_ediv_of_nonneg (by omega)
    have w6 : Int.tmod (r * 4294967296 + rd a (j : Int)) d = (r * 4294967296 + rd a (j : Int)) % d := Int.tmod_eq_emod_of_nonneg (by omega)
    have w7 : IntKind.u64.wrap ((r * 4294967296 + rd a (j : Int)) / d) % 4294967296 = (r * 4294967296 + rd a (j : Int)) / d := by
      rw [wu64 _ hb.1 (by omega), Int.emod_eq_of_lt hb.1 hb.2.1]
    have h2 := ih (o.set j ((r * 4294967296 + rd a (j : Int)) / d)) ((r * 4294967296 + rd a (j : Int)) % d) c3 (lok_set ho hb.1 hb.2.1 _) (by rw [List.length_set]; exact lo) hb.2.2
      (by
        have e2 : lv ((o.set j ((r * 4294967296 + rd a (j : Int)) / d)).drop j) = (r * 4294967296 + rd a (j : Int)) / d + 4294967296 * lv (o.drop (j + 1)) := by
          have c4 : j < (o.set j ((r * 4294967296 + rd a (j : Int)) / d)).length := by rw [List.length_set]; exact c2
          rw [List.drop_eq_getElem_cons c4, List.getElem_set_self, List.drop_set_of_lt (by omega), lv]
        have e3 := Int.mul_ediv_add_emod (r * 4294967296 + rd a (j : Int)) d
        rw [lv_drop_rd j c1, e2, hv]
        revert e3
        generalize (r * 4294967296 + rd a (j : Int)) / d = q
        generalize (r * 4294967296 + rd a (j : Int)) % d = m
        generalize rd a (j : Int) = x
        intro e3
        grind)
    refine Ev.succ (fun k => ?_) h2
    simp only [N1divideSmall.l0]
    rw [e, e1, w1, w2, w3, w4, w5, w6, w7, if_pos (ix_nn _), if_pos (ix_nn _), if_pos (ix_lt c1), if_neg (by omega), if_pos (ix_lt c2), Int.toNat_natCast]
theorem divideSmall_ev {a : List Int} (ha : lok a) (la : a.length ≤ 1099511627776) {d : Int} (hd : 0 < d) (hd1 : d < 4294967296) : Ev (fun k => N1divideSmall.f k a d) (lm (lv a / d).toNat, lv a % d) := by
  have h := divideSmall_l0 a ha la d hd hd1 a.length (List.replicate a.length 0) 0 (Nat.le_refl _) (lok_replicate _) List.length_replicate ⟨by decide, hd⟩ (by
    rw [List.drop_length, List.drop_of_length_le (by rw [List.length_replicate]; exact Nat.le_refl _)]
    show (0 : Int) = d * 0 + 0
    rw [Int.mul_zero]; rfl)
  have e : wrap64 ((a.length : Int) - 1) = (a.length : Int) - 1 := w64 (by omega) (by omega)
  refine Ev.congr (fun k => ?_) h
  unfold N1divideSmall.f
  rw [if_pos (ix_nn _), Int.toNat_natCast, if_pos (by omega), e]
theorem or_zero32 {v : Int} (h0 : 0 ≤ v) (h1 : v < 4294967296) : Go.bits .or .u32 0 v = v := by
  rw [bits_join .u32 32 (by decide) wraps_u32 32 0 v (by decide) (by decide) (by decide) h0 (by omega) (by omega), Int.zero_add]
theorem pow2_le31 {s : Nat} (hs : s ≤ 31) : (2 : Int) ^ s ≤ 2147483648 := by
  have := Nat.pow_le_pow_right (show 0 < 2 by decide) hs
  have e : ((2 ^ s : Nat) : Int) = (2 : Int) ^ s := Int.natCast_pow _ _
  rw [← e]
  omega
theorem pow2_pos (s : Nat) : (0 : Int) < 2 ^ s := Int.pow_pos (by decide)
theorem shl_limb {a P : Int} (ha : 0 ≤ a ∧ a < 4294967296) (hP : 0 < P) (hP1 : P ≤ 2147483648) : 0 ≤ a * P ∧ a * P < 18446744073709551616 ∧ a * P / 4294967296 < P := by
  have h1 : 0 ≤ a * P := Int.mul_nonneg ha.1 (by omega)
  have h2 : a * P ≤ 4294967295 * P := Int.mul_le_mul_of_nonneg_right (by omega) (by omega)
  refine ⟨h1, by omega, Int.ediv_lt_of_lt_mul (by decide) (by omega)⟩
theorem or_shl {r a : Int} {s : Nat} (hs : s ≤ 31) (hr : 0 ≤ r ∧ r < 2 ^ s) (ha : 0 ≤ a ∧ a < 4294967296) :
    Go.bits .or .u32 r (a * 2 ^ s % 4294967296) = r + a * 2 ^ s % 4294967296 ∧ 0 ≤ r + a * 2 ^ s % 4294967296 ∧ r + a * 2 ^ s % 4294967296 < 4294967296 := by
  have h0 : 0 ≤ a * 2 ^ s % 4294967296 := Int.emod_nonneg _ (by decide)
  have h1 : a * 2 ^ s % 4294967296 < 4294967296 := Int.emod_lt_of_pos _ (by decide)
  have hdvd : (2 : Int) ^ s ∣ 4294967296 := by
    refine ⟨2 ^ (32 - s), ?_⟩
    rw [← Int.pow_add, show s + (32 - s) = 32 by omega]
    rfl
  have h2 : a * 2 ^ s % 4294967296 % 2 ^ s = 0 := by
    rw [Int.emod_emod_of_dvd _ hdvd, Int.mul_emod_left]
  have hp := pow2_le31 hs
  have hj := bits_join .u32 32 (by decide) wraps_u32 s (a * 2 ^ s % 4294967296) r h0 h2 (by omega) hr.1 hr.2 (by omega)
  have h3 : r + a * 2 ^ s % 4294967296 < 4294967296 := by
    -- the high part is a multiple of 2^s below 2^32
    obtain ⟨m, hm⟩ := Int.dvd_of_emod_eq_zero h2
    obtain ⟨c, hc⟩ := hdvd
    have hP := pow2_pos s
    have h4 : m < c := by
      have : (2 : Int) ^ s * m < 2 ^ s * c := by rw [← hm, ← hc]; exact h1
      exact Int.lt_of_mul_lt_mul_left this (by omega)
    have h5 : (2 : Int) ^ s * (m + 1) ≤ 2 ^ s * c := Int.mul_le_mul_of_nonneg_left (by omega) (by omega)
    rw [Int.mul_add, Int.mul_one, ← hm, ← hc] at h5
    omega
  refine ⟨by rw [bits_or_comm, hj, Int.add_comm], by omega, h3⟩
theorem shift_l0 (a : List Int) (ha : lok a) (la : a.length ≤ 1099511627776) (s : Nat) (hs : s ≤ 31) (n : Nat) (hn : a.length ≤ n) (hn1 : n ≤ a.length + 1) (hfit : lv a * 2 ^ s < BP n) (d : Nat) : ∀ (i : Nat) (o : List Int), i + d = a.length → lok o → o.length = n →
    lv o = lv (a.take i) * 2 ^ s → ∃ z, Ev (fun k => N1shift.l0 k (s : Int) (n : Int) o a (a.length : Int) (i : Int)) z ∧ lok z ∧ z.length = n ∧ lv z = lv a * 2 ^ s := by
  induction d with
  | zero =>
    intro i o hi ho lo hv
    have hi' : i = a.length := by omega
    subst hi'
    rw [List.take_of_length_le (Nat.le_refl _)] at hv
    refine ⟨o, ?_, ho, lo, hv⟩
    refine Ev.succ (h := fun k => some o) (fun k => ?_) (Ev.of fun _ => rfl)
    simp only [N1shift.l0]
    rw [if_neg (ix_nlt (Nat.le_refl _))]
  | succ d ih =>
    intro i o hi ho lo hv
    have c1 : i < a.length := by omega
    have c2 : i < o.length := by omega
    have c3 : i ≤ 4611686018427387904 := by omega
    have c4 : i + 1 + d = a.length := by omega
    have c5 : (s : Int) ≤ 64 := by omega
    have hal := rd_ok ha (i : Int)
    have hP := pow2_pos s
    have hP1 := pow2_le31 hs
    have hsh := shl_limb hal hP hP1
    have hlt : lv o < BP i * 2 ^ s := by
      rw [hv]
      have h1 := lv_lt (lok_take ha i)
      rw [List.length_take, Nat.min_eq_left (Nat.le_of_lt c1)] at h1
      exact Int.mul_lt_mul_of_pos_right h1 hP
    have hr : 0 ≤ rd o (i : Int) ∧ rd o (i : Int) < 2 ^ s := ⟨(rd_ok ho _).1, rd_lt_of ho i _ hlt⟩
    obtain ⟨hor, hor0, hor1⟩ := or_shl hs hr hal
    have hz : rd o ((i + 1 : Nat) : Int) = 0 := by
      have h1 : lv o < BP (i + 1) * 1 := by
        rw [Int.mul_one, BP_succ]
        have h2 : BP i * 2 ^ s ≤ BP i * 4294967296 := Int.mul_le_mul_of_nonneg_left (by omega) (Int.le_of_lt (BP_pos i))
        omega
      have h2 := rd_lt_of ho (i + 1) 1 h1
      have h3 := (rd_ok ho ((i + 1 : Nat) : Int)).1
      omega
    have w1 : IntKind.u64.wrap (rd a (i : Int)) = rd a (i : Int) := wu64 _ (by omega) (by omega)
    have w2 : IntKind.u64.wrap (rd a (i : Int) * 2 ^ s) = rd a (i : Int) * 2 ^ s := wu64 _ hsh.1 hsh.2.1
    have hy : lv (o.set i (rd o (i : Int) + rd a (i : Int) * 2 ^ s % 4294967296)) = lv o + BP i * (rd a (i : Int) * 2 ^ s % 4294967296) := by
      rw [lv_set _ _ _ c2, ← rd_nat]
      grind
    have hyok : lok (o.set i (rd o (i : Int) + rd a (i : Int) * 2 ^ s % 4294967296)) := lok_set ho hor0 hor1 _
    have hyz : rd (o.set i (rd o (i : Int) + rd a (i : Int) * 2 ^ s % 4294967296)) ((i + 1 : Nat) : Int) = 0 := by rw [rd_set_ne _ _ (by omega)]; exact hz
    have hdm := Int.mul_ediv_add_emod (rd a (i : Int) * 2 ^ s) 4294967296
    by_cases hin : i + 1 < n
    · have hq0 : 0 ≤ rd a (i : Int) * 2 ^ s / 4294967296 := Int.ediv_nonneg hsh.1 (by decide)
      have hq1 : rd a (i : Int) * 2 ^ s / 4294967296 < 4294967296 := by omega
      have c6 : i + 1 < (o.set i (rd o (i : Int) + rd a (i : Int) * 2 ^ s % 4294967296)).length := by rw [List.length_set]; omega
      have c7 : i + 1 < o.length := by omega
      have w3 : rd a (i : Int) * 2 ^ s / 4294967296 % 4294967296 = rd a (i : Int) * 2 ^ s / 4294967296 := Int.emod_eq_of_lt hq0 hq1
      obtain ⟨z, hz1, hz2, hz3, hz4⟩ := ih (i + 1) ((o.set i (rd o (i : Int) + rd a (i : Int) * 2 ^ s % 4294967296)).set (i + 1) (rd a (i : Int) * 2 ^ s / 4294967296)) c4
        (lok_set hyok hq0 hq1 _) (by rw [List.length_set, List.length_set]; exact lo)
        (by
          rw [lv_set _ _ _ c6, ← rd_nat, hyz, hy, lv_take_rd a, BP_succ, hv]
          revert hdm
          generalize rd a (i : Int) * 2 ^ s / 4294967296 = q
          generalize rd a (i : Int) * 2 ^ s % 4294967296 = m
          intro hdm
          grind)
      refine ⟨z, Ev.succ (fun k => ?_) hz1, hz2, hz3, hz4⟩
      simp only [N1shift.l0]
      rw [if_pos (ix_lt c1), if_pos (ix_nn _), if_pos (ix_lt c1), if_pos (ix_nn _), if_pos c5, if_pos (ix_lt c2), Option.bind_some, ix_succ c3, if_pos (ix_lt hin), if_pos (ix_nn _), if_pos (ix_lt c7), Int.toNat_natCast, Int.toNat_natCast, Int.toNat_natCast, w1, w2, hor, hyz, w3, or_zero32 hq0 hq1]
    · -- the last limb: nothing goes over
      have hq : rd a (i : Int) * 2 ^ s / 4294967296 = 0 := by
        have hin' : n = i + 1 := by omega
        have h1 : BP i * (rd a (i : Int) * 2 ^ s) ≤ lv a * 2 ^ s := by
          have h2 := lv_ge ha i
          have h3 : BP i * rd a (i : Int) * 2 ^ s ≤ lv a * 2 ^ s := Int.mul_le_mul_of_nonneg_right h2 (by omega)
          rw [Int.mul_assoc] at h3
          exact h3
        rw [hin', BP_succ, Int.mul_comm 4294967296] at hfit
        have h4 : rd a (i : Int) * 2 ^ s < 4294967296 := Int.lt_of_mul_lt_mul_left (Int.lt_of_le_of_lt h1 hfit) (Int.le_of_lt (BP_pos i))
        exact Int.ediv_eq_zero_of_lt hsh.1 h4
      obtain ⟨z, hz1, hz2, hz3, hz4⟩ := ih (i + 1) (o.set i (rd o (i : Int) + rd a (i : Int) * 2 ^ s % 4294967296)) c4 hyok (by rw [List.length_set]; exact lo)
        (by
          rw [hy, lv_take_rd a, hv]
          rw [hq] at hdm
          revert hdm
          generalize rd a (i : Int) * 2 ^ s % 4294967296 = m
          intro hdm
          grind)
      refine ⟨z, Ev.succ (fun k => ?_) hz1, hz2, hz3, hz4⟩
      simp only [N1shift.l0]
      rw [if_pos (ix_lt c1), if_pos (ix_nn _), if_pos (ix_lt c1), if_pos (ix_nn _), if_pos c5, if_pos (ix_lt c2), Option.bind_some, ix_succ c3, if_neg (ix_nlt (by omega)), Int.toNat_natCast, Int.toNat_natCast, w1, w2, hor]
theorem shift_ev {a : List Int} (ha : lok a) (la : a.length ≤ 549755813888) {s : Nat} (hs : s ≤ 31) {n : Nat} (hn : a.length ≤ n) (hn1 : n ≤ a.length + 1) (hfit : lv a * 2 ^ s < BP n) :
    ∃ z, Ev (fun k => N1shift.f k a (s : Int) (n : Int)) z ∧ lok z ∧ z.length = n ∧ lv z = lv a * 2 ^ s := by
  obtain ⟨z, h1, h2⟩ := shift_l0 a ha (by omega) s hs n hn hn1 hfit a.length 0 (List.replicate n 0) (by omega) (lok_replicate _) List.length_replicate (by
    rw [lv_replicate, List.take_zero]; show (0 : Int) = 0 * _; rw [Int.zero_mul])
  refine ⟨z, Ev.congr (fun k => ?_) h1, h2⟩
  unfold N1shift.f
  rw [if_pos (ix_nn _), Int.toNat_natCast, if_pos (by omega)]
  rfl
theorem unshift_limb {a b h P : Int} (hP : 0 < P) (hd : P ∣ 4294967296) : (a + 4294967296 * (b + 4294967296 * h)) / P % 4294967296 = (a + b * 4294967296) / P % 4294967296 := by
  obtain ⟨c, hc⟩ := hd
  have e : a + 4294967296 * (b + 4294967296 * h) = (a + b * 4294967296) + P * (c * (4294967296 * h)) := by rw [hc]; grind
  rw [e, Int.add_mul_ediv_left _ _ (by omega)]
  have e2 : (a + b * 4294967296) / P + c * (4294967296 * h) = (a + b * 4294967296) / P + 4294967296 * (c * h) := by grind
  rw [e2, Int.add_mul_emod_self_left]
theorem pow2_dvd {s : Nat} (hs : s ≤ 31) : (2 : Int) ^ s ∣ 4294967296 := by
  refine ⟨2 ^ (32 - s), ?_⟩
  rw [← Int.pow_add, show s + (32 - s) = 32 by omega]
  rfl
theorem mod_BP_succ (v : Int) (i : Nat) : v % BP (i + 1) = v % BP i + BP i * (v / BP i % 4294967296) := by
  have hP := BP_pos i
  have h1 := Int.mul_ediv_add_emod v (BP i)
  have h2 := Int.mul_ediv_add_emod (v / BP i) 4294967296
  have h3 := Int.emod_nonneg v (show BP i ≠ 0 by omega)
  have h4 := Int.emod_lt_of_pos v hP
  have h5 := Int.emod_nonneg (v / BP i) (show (4294967296 : Int) ≠ 0 by decide)
  have h6 := Int.emod_lt_of_pos (v / BP i) (show (0 : Int) < 4294967296 by decide)
  have e : v = v % BP i + BP i * (v / BP i % 4294967296) + BP (i + 1) * (v / BP i / 4294967296) := by rw [BP_succ]; grind
  have h7 : 0 ≤ BP i * (v / BP i % 4294967296) := Int.mul_nonneg (by omega) h5
  have h8 : BP i * (v / BP i % 4294967296 + 1) ≤ BP i * 4294967296 := Int.mul_le_mul_of_nonneg_left (by omega) (by omega)
  rw [Int.mul_add, Int.mul_one] at h8
  conv => lhs; rw [e]
  rw [Int.add_mul_emod_self_left]
  exact Int.emod_eq_of_lt (by omega) (by rw [BP_succ]; omega)
theorem unshift_l0 (a : List Int) (ha : lok a) (la : a.length ≤ 1099511627776) (s : Nat) (hs : s ≤ 31) (d : Nat) : ∀ (i : Nat) (o : List Int), i + d = a.length → lok o → o.length = a.length →
    lv (o.take i) = lv a / 2 ^ s % BP i → Ev (fun k => N1unshift.l0 k a (s : Int) o (a.length : Int) (i : Int)) (lm (lv a / 2 ^ s).toNat) := by
  have hP := pow2_pos s
  have hP1 := pow2_le31 hs
  have hPd := pow2_dvd hs
  induction d with
  | zero =>
    intro i o hi ho lo hv
    have hi' : i = a.length := by omega
    subst hi'
    have h1 : 0 ≤ lv a / 2 ^ s := Int.ediv_nonneg (lv_nonneg ha) (by omega)
    have h2 : lv a / 2 ^ s < BP a.length := by
      have h3 : lv a / 2 ^ s ≤ lv a := Int.ediv_le_self _ (lv_nonneg ha)
      have := lv_lt ha
      omega
    rw [List.take_of_length_le (Nat.le_of_eq lo), Int.emod_eq_of_lt h1 h2] at hv
    have lo2 : o.length ≤ 70368744177664 := by omega
    have ht := trim_ev ho lo2
    rw [hv] at ht
    refine Ev.succ (h := fun k => (N1limbs_trim.f k o).bind fun t => some t) (fun k => ?_) (Ev.bind ht (Ev.of fun _ => rfl))
    simp only [N1unshift.l0]
    rw [if_neg (ix_nlt (Nat.le_refl _))]
  | succ d ih =>
    intro i o hi ho lo hv
    have c1 : i < a.length := by omega
    have c2 : i < o.length := by omega
    have c3 : i ≤ 4611686018427387904 := by omega
    have c4 : i + 1 + d = a.length := by omega
    have c5 : (s : Int) ≤ 64 := by omega
    have hal := rd_ok ha (i : Int)
    have hal1 := rd_ok ha ((i + 1 : Nat) : Int)
    have hdig : lv a / 2 ^ s / BP i % 4294967296 = (rd a (i : Int) + rd a ((i + 1 : Nat) : Int) * 4294967296) / 2 ^ s % 4294967296 := by
      rw [Int.ediv_ediv_of_nonneg (by omega), Int.mul_comm, ← Int.ediv_ediv_of_nonneg (Int.le_of_lt (BP_pos i)), lv_div ha i c1]
      by_cases h1 : i + 1 < a.length
      · rw [lv_drop_rd (i + 1) h1]
        exact unshift_limb hP hPd
      · rw [List.drop_of_length_le (by omega), rd_out (l := a) (i := i + 1) (by omega)]
        show (rd a (i : Int) + 4294967296 * 0) / 2 ^ s % 4294967296 = _
        rw [Int.mul_zero, Int.zero_mul]
    have q0 : 0 ≤ (rd a (i : Int) + rd a ((i + 1 : Nat) : Int) * 4294967296) / 2 ^ s % 4294967296 := Int.emod_nonneg _ (by decide)
    have q1 : (rd a (i : Int) + rd a ((i + 1 : Nat) : Int) * 4294967296) / 2 ^ s % 4294967296 < 4294967296 := Int.emod_lt_of_pos _ (by decide)
    have h2 := ih (i + 1) (o.set i ((rd a (i : Int) + rd a ((i + 1 : Nat) : Int) * 4294967296) / 2 ^ s % 4294967296)) c4 (lok_set ho q0 q1 _) (by rw [List.length_set]; exact lo)
      (by rw [lv_set_take _ _ _ c2, mod_BP_succ, hdig, hv])
    have w1 : IntKind.u64.wrap (rd a (i : Int)) = rd a (i : Int) := wu64 _ (by omega) (by omega)
    have w2 : IntKind.u64.wrap (rd a ((i + 1 : Nat) : Int)) = rd a ((i + 1 : Nat) : Int) := wu64 _ (by omega) (by omega)
    have w3 : IntKind.u64.wrap (rd a ((i + 1 : Nat) : Int) * 4294967296) = rd a ((i + 1 : Nat) : Int) * 4294967296 := wu64 _ (by omega) (by omega)
    have w4 : Go.bits .or .u64 (rd a (i : Int)) (rd a ((i + 1 : Nat) : Int) * 4294967296) = rd a (i : Int) + rd a ((i + 1 : Nat) : Int) * 4294967296 := by
      rw [bits_or_comm, or64 hal1.1 hal1.2 hal.1 hal.2, Int.add_comm]
    refine Ev.succ (fun k => ?_) h2
    simp only [N1unshift.l0]
    rw [if_pos (ix_lt c1), if_pos (ix_nn _), if_pos (ix_lt c1), ix_succ c3]
    by_cases h1 : i + 1 < a.length
    · rw [if_pos (ix_lt h1), if_pos (ix_nn _), if_pos (ix_nn _), if_pos c5, if_pos (ix_lt c2), w1, w2, w3, w4, Int.toNat_natCast, Int.toNat_natCast]
    · have e0 := rd_out (l := a) (i := i + 1) (by omega)
      rw [if_neg (ix_nlt (by omega)), if_pos (ix_nn _), if_pos c5, if_pos (ix_lt c2), w1, e0, Int.zero_mul, Int.add_zero, Int.toNat_natCast, Int.toNat_natCast]
theorem unshift_ev {a : List Int} (ha : lok a) (la : a.length ≤ 549755813888) {s : Nat} (hs : s ≤ 31) : Ev (fun k => N1unshift.f k a (s : Int)) (lm (lv a / 2 ^ s).toNat) := by
  have h := unshift_l0 a ha (by omega) s hs a.length 0 (List.replicate a.length 0) (by omega) (lok_replicate _) List.length_replicate (by
    rw [List.take_zero, BP_zero, Int.emod_one]; rfl)
  refine Ev.congr (fun k => ?_) h
  unfold N1unshift.f
  rw [if_pos (ix_nn _), Int.toNat_natCast, if_pos (by omega)]
  rfl
theorem bitLenAux_spec (f : Nat) : ∀ x, x < 2 ^ f → x < 2 ^ Lib.bitLenAux f x ∧ (0 < x → 2 ^ Lib.bitLenAux f x ≤ 2 * x) := by
  induction f with
  | zero =>
    intro x hx
    have : x = 0 := by simpa using hx
    subst this
    exact ⟨by decide, fun h => absurd h (by decide)⟩
  | succ f ih =>
    intro x hx
    unfold Lib.bitLenAux
    split
    · rename_i h
      subst h
      exact ⟨by decide, fun h => absurd h (by decide)⟩
    · rename_i h
      obtain ⟨h1, h2⟩ := ih (x / 2) (by rw [Nat.pow_succ] at hx; omega)
      rw [Nat.add_comm 1, Nat.pow_succ]
      refine ⟨by omega, fun _ => ?_⟩
      by_cases h3 : 0 < x / 2
      · have := h2 h3
        omega
      · have h4 : x / 2 = 0 := by omega
        rw [h4]
        have h5 : Lib.bitLenAux f 0 = 0 := by cases f <;> rfl
        rw [h5]
        omega
theorem lz_spec {x : Int} (h0 : 0 < x) (h1 : x < 4294967296) : ∃ s : Nat, s ≤ 31 ∧ bits_LeadingZeros32.f x = some (s : Int) ∧ 2147483648 ≤ x * 2 ^ s ∧ x * 2 ^ s < 4294967296 := by
  obtain ⟨n, rfl⟩ := Int.eq_ofNat_of_zero_le (Int.le_of_lt h0)
  have hs := bitLenAux_spec 64 n (by have : (4294967296 : Nat) ≤ 2 ^ 64 := by decide
                                     omega)
  have hb : Lib.bitLen n = Lib.bitLenAux 64 n := rfl
  rw [← hb] at hs
  generalize hB : Lib.bitLen n = b at hs
  have hn0 : 0 < n := by omega
  have h2 := hs.2 hn0
  have hb1 : b ≤ 32 := by
    refine Nat.le_of_not_lt fun hgt => ?_
    have : 2 ^ 33 ≤ 2 ^ b := Nat.pow_le_pow_right (by decide) hgt
    omega
  have hb0 : 1 ≤ b := by
    refine Nat.one_le_iff_ne_zero.2 fun h => ?_
    have h5 := hs.1
    rw [h] at h5
    have h6 : n < 1 := h5
    exact absurd hn0 (Nat.not_lt.2 (Nat.le_of_lt_succ h6))
  have hp : 2 ^ b * 2 ^ (32 - b) = 4294967296 := by
    rw [← Nat.pow_add, show b + (32 - b) = 32 by omega]
  refine ⟨32 - b, by omega, ?_, ?_, ?_⟩
  · unfold bits_LeadingZeros32.f
    rw [if_pos ⟨by omega, by omega⟩, Int.toNat_natCast, hB]
    congr 1
    omega
  · have h3 : 2 ^ b * 2 ^ (32 - b) ≤ 2 * n * 2 ^ (32 - b) := Nat.mul_le_mul_right _ h2
    have h4 : 2147483648 ≤ n * 2 ^ (32 - b) := by rw [hp, Nat.mul_assoc] at h3; omega
    have e : ((n * 2 ^ (32 - b) : Nat) : Int) = (n : Int) * 2 ^ (32 - b) := by rw [Int.natCast_mul, Int.natCast_pow]; rfl
    rw [← e]
    exact Int.ofNat_le.2 h4
  · have h3 : n * 2 ^ (32 - b) < 2 ^ b * 2 ^ (32 - b) := Nat.mul_lt_mul_of_pos_right hs.1 (Nat.pow_pos (by decide))
    rw [hp] at h3
    have e : ((n * 2 ^ (32 - b) : Nat) : Int) = (n : Int) * 2 ^ (32 - b) := by rw [Int.natCast_mul, Int.natCast_pow]; rfl
    rw [← e]
    exact Int.ofNat_lt.2 h3
theorem mul_lt_cancel {a b P : Int} (hP : 0 < P) (h : a * P < b * P) : a < b := Int.lt_of_mul_lt_mul_right h (by omega)
theorem kn_top {B P d1 d2 r T u2 w q : Int} (hB : 0 < B) (hP : 0 < P) (hd2 : 0 ≤ d2) (hr : 0 ≤ r) (hu2 : u2 < B) (hw : w < P)
    (hq0 : 0 ≤ q) (hq : q * ((d1 * B + d2) * P + r) ≤ (T * B + u2) * P + w) : q * d1 ≤ T := by
  have h0 : 0 ≤ q * d2 * P := Int.mul_nonneg (Int.mul_nonneg hq0 hd2) (by omega)
  have h1 : 0 ≤ q * r := Int.mul_nonneg hq0 hr
  have h2 : (u2 + 1) * P ≤ B * P := Int.mul_le_mul_of_nonneg_right (by omega) (by omega)
  have h3 : (q * d1) * (B * P) < (T + 1) * (B * P) := by grind
  have := mul_lt_cancel (Int.mul_pos hB hP) h3
  omega
theorem kn_down {B P d1 d2 r u2 w q guess rest : Int} (hP : 0 < P) (hr : 0 ≤ r) (hw : w < P) (hg : 0 ≤ guess)
    (hD : 0 ≤ (d1 * B + d2) * P + r)
    (hq : q * ((d1 * B + d2) * P + r) ≤ ((guess * d1 + rest) * B + u2) * P + w) (hc : guess * d2 > rest * B + u2) : q ≤ guess - 1 := by
  refine Int.not_lt.1 fun h => ?_
  have h2 : guess * ((d1 * B + d2) * P + r) ≤ q * ((d1 * B + d2) * P + r) := Int.mul_le_mul_of_nonneg_right (by omega) hD
  have h3 : ((guess * d1 + rest) * B + u2 + 1) * P ≤ (guess * (d1 * B + d2)) * P := Int.mul_le_mul_of_nonneg_right (by grind) (by omega)
  have h4 : 0 ≤ guess * r := Int.mul_nonneg hg hr
  grind
theorem kn_up {B P d1 d2 r u2 w guess rest : Int} (hP : 0 < P) (hr : r < P) (hr0 : 0 ≤ r) (hw : 0 ≤ w) (hg : 0 ≤ guess) (hgB : guess ≤ B) (hd2 : 0 ≤ d2) (hd1 : 1 ≤ d1) (hB : 0 < B)
    (hc : guess * d2 ≤ rest * B + u2) : (guess - 1) * ((d1 * B + d2) * P + r) ≤ ((guess * d1 + rest) * B + u2) * P + w := by
  have h3 : (guess * (d1 * B + d2)) * P ≤ ((guess * d1 + rest) * B + u2) * P := Int.mul_le_mul_of_nonneg_right (by grind) (by omega)
  have h4 : guess * r ≤ B * P := Int.le_trans (Int.mul_le_mul_of_nonneg_right hgB hr0) (Int.mul_le_mul_of_nonneg_left (by omega) (by omega))
  have h5 : B * P ≤ d1 * (B * P) := by have := Int.mul_le_mul_of_nonneg_right hd1 (Int.le_of_lt (Int.mul_pos hB hP)); omega
  have h6 : 0 ≤ d2 * P := Int.mul_nonneg hd2 (by omega)
  grind
theorem kn_break {B d2 rest u2 guess : Int} (hB : 0 < B) (hg0 : 0 ≤ guess) (hg : guess ≤ B) (hd2 : d2 < B) (hr : B ≤ rest) (hu : 0 ≤ u2) : guess * d2 ≤ rest * B + u2 := by
  have h1 : guess * d2 ≤ guess * B := Int.mul_le_mul_of_nonneg_left (by omega) hg0
  have h2 : guess * B ≤ B * B := Int.mul_le_mul_of_nonneg_right hg (by omega)
  have h3 : B * B ≤ rest * B := Int.mul_le_mul_of_nonneg_right hr (by omega)
  omega
theorem lv_all (l : List Int) (n : Nat) (h : l.length = n + 1) : lv l = lv (l.take n) + BP n * rd l (n : Int) := by
  have := lv_take_rd l n
  rw [List.take_of_length_le (by omega)] at this
  exact this
theorem step_l2 (d : List Int) (hd : lok d) (n : Nat) (hn : d.length = n) (hn1 : n ≤ 1099511627776) (g : Int) (hg : 1 ≤ g ∧ g ≤ 4294967296) (u0 : List Int) (lu0 : u0.length = n + 1) (m : Nat) : ∀ (i : Nat) (u : List Int) (c : Int), i + m = n → lok u → u.length = n + 1 → 0 ≤ c ∧ c ≤ 1 →
    lv (u.take i) + BP i * c = lv (u0.take i) + lv (d.take i) → (∀ j : Nat, i ≤ j → rd u (j : Int) = rd u0 (j : Int)) →
    ∃ r, Ev (fun k => N1step.l2 k u (n : Int) g c d (n : Int) (i : Int)) (g - 1, r) ∧ lok r ∧ r.length = n + 1 ∧ lv r = (lv u0 + lv d) % BP (n + 1) := by
  induction m with
  | zero =>
    intro i u c hi hu lu hc hv hs
    have hi' : i = n := by omega
    subst hi'
    have hun := rd_ok hu (i : Int)
    have c1 : i < u.length := by omega
    have q0 : 0 ≤ (rd u (i : Int) + c) % 4294967296 := Int.emod_nonneg _ (by decide)
    have q1 : (rd u (i : Int) + c) % 4294967296 < 4294967296 := Int.emod_lt_of_pos _ (by decide)
    have hr : lok (u.set i ((rd u (i : Int) + c) % 4294967296)) := lok_set hu q0 q1 _
    have lr : (u.set i ((rd u (i : Int) + c) % 4294967296)).length = i + 1 := by rw [List.length_set]; exact lu
    refine ⟨u.set i ((rd u (i : Int) + c) % 4294967296), ?_, hr, lr, ?_⟩
    · refine Ev.succ (h := fun k => some (g - 1, u.set i ((rd u (i : Int) + c) % 4294967296))) (fun k => ?_) (Ev.of fun _ => rfl)
      have w1 : IntKind.u64.wrap (g - 1) % 4294967296 = g - 1 := by
        rw [wu64 _ (by omega) (by omega)]
        exact Int.emod_eq_of_lt (by omega) (by omega)
      simp only [N1step.l2]
      rw [if_neg (ix_nlt (Nat.le_refl _)), if_pos (ix_nn _), if_pos (ix_lt c1), w1, Int.toNat_natCast]
    · have h1 := lv_set_take u i ((rd u (i : Int) + c) % 4294967296) c1
      rw [List.take_of_length_le (Nat.le_of_eq lr)] at h1
      have h2 := lv_all u0 i lu0
      have h3 : lv (d.take i) = lv d := by rw [List.take_of_length_le (Nat.le_of_eq hn)]
      have h4 := Int.mul_ediv_add_emod (rd u (i : Int) + c) 4294967296
      have h5 : lv u0 + lv d = lv (u.set i ((rd u (i : Int) + c) % 4294967296)) + BP (i + 1) * ((rd u (i : Int) + c) / 4294967296) := by
        rw [h1, h2, ← hs i (Nat.le_refl _), BP_succ]
        rw [h3] at hv
        revert hv h4
        generalize (rd u (i : Int) + c) % 4294967296 = p
        generalize (rd u (i : Int) + c) / 4294967296 = q
        generalize rd u (i : Int) = x
        intro hv h4
        grind
      have h6 := lv_nonneg hr
      have h7 := lv_lt hr
      rw [lr] at h7
      rw [h5, Int.add_mul_emod_self_left, Int.emod_eq_of_lt h6 h7]
  | succ m ih =>
    intro i u c hi hu lu hc hv hs
    have c1 : i < d.length := by omega
    have c2 : i < u.length := by omega
    have c3 : i ≤ 4611686018427387904 := by omega
    have c4 : i + 1 + m = n := by omega
    have c5 : i < n := by omega
    have hui := rd_ok hu (i : Int)
    have hdi := rd_ok hd (i : Int)
    have hadd := Add32_is hui hdi hc
    have h2 := ih (i + 1) (u.set i ((rd u (i : Int) + rd d (i : Int) + c) % 4294967296)) ((rd u (i : Int) + rd d (i : Int) + c) / 4294967296) c4
      (lok_set hu (Int.emod_nonneg _ (by decide)) (Int.emod_lt_of_pos _ (by decide)) _) (by rw [List.length_set]; exact lu) (by omega)
      (by
        rw [lv_set_take u i _ c2, lv_take_rd u0, lv_take_rd d, BP_succ, ← hs i (Nat.le_refl _)]
        have e := Int.mul_ediv_add_emod (rd u (i : Int) + rd d (i : Int) + c) 4294967296
        revert hv e
        generalize (rd u (i : Int) + rd d (i : Int) + c) % 4294967296 = p
        generalize (rd u (i : Int) + rd d (i : Int) + c) / 4294967296 = q
        generalize rd u (i : Int) = a
        generalize rd d (i : Int) = b
        intro hv e
        grind)
      (fun j hj => by rw [rd_set_ne _ _ (by omega)]; exact hs j (by omega))
    obtain ⟨r, hr1, hr2⟩ := h2
    refine ⟨r, Ev.succ (fun k => ?_) hr1, hr2⟩
    simp only [N1step.l2]
    rw [if_pos (ix_lt c5), if_pos (ix_nn _), if_pos (ix_lt c1), if_pos (ix_lt c2), hadd, Option.bind_some, ix_succ c3, Int.toNat_natCast]
theorem step_l1 (d : List Int) (hd : lok d) (n : Nat) (hn : d.length = n) (hn1 : n ≤ 1099511627776) (g : Int) (hg : 0 ≤ g ∧ g < 4294967296) (u0 : List Int) (hu0 : lok u0) (lu0 : u0.length = n + 1) (m : Nat) : ∀ (i : Nat) (u : List Int) (c b : Int), i + m = n → lok u → u.length = n + 1 → 0 ≤ c ∧ c < 4294967296 → 0 ≤ b ∧ b ≤ 1 →
    lv (u.take i) = lv (u0.take i) - g * lv (d.take i) + BP i * (c + b) → (∀ j : Nat, i ≤ j → rd u (j : Int) = rd u0 (j : Int)) →
    ∃ o r, Ev (fun k => N1step.l1 k u d (n : Int) g c b d (n : Int) (i : Int)) (o, r) ∧ lok r ∧ r.length = n + 1 ∧
      (g * lv d ≤ lv u0 → o = g ∧ lv r = lv u0 - g * lv d) ∧ (¬ g * lv d ≤ lv u0 → o = g - 1 ∧ lv r = (lv u0 - g * lv d + lv d) % BP (n + 1)) := by
  induction m with
  | zero =>
    intro i u c b hi hu lu hc hb hv hs
    have hi' : i = n := by omega
    subst hi'
    have hun := rd_ok hu (i : Int)
    have c1 : i < u.length := by omega
    have e1 : c % 4294967296 = c := Int.emod_eq_of_lt hc.1 hc.2
    have hsub := Sub32_is hun hc hb
    have q0 : 0 ≤ (rd u (i : Int) - c - b) % 4294967296 := Int.emod_nonneg _ (by decide)
    have q1 : (rd u (i : Int) - c - b) % 4294967296 < 4294967296 := Int.emod_lt_of_pos _ (by decide)
    have hr : lok (u.set i ((rd u (i : Int) - c - b) % 4294967296)) := lok_set hu q0 q1 _
    have lr : (u.set i ((rd u (i : Int) - c - b) % 4294967296)).length = i + 1 := by rw [List.length_set]; exact lu
    have h1 := lv_set_take u i ((rd u (i : Int) - c - b) % 4294967296) c1
    rw [List.take_of_length_le (Nat.le_of_eq lr)] at h1
    have h2 := lv_all u0 i lu0
    have h3 : lv (d.take i) = lv d := by rw [List.take_of_length_le (Nat.le_of_eq hn)]
    have h6 := lv_nonneg hr
    have h7 := lv_lt hr
    rw [lr] at h7
    have hg0 : g % 4294967296 = g := Int.emod_eq_of_lt hg.1 hg.2
    by_cases hneg : rd u (i : Int) - c - b < 0
    · -- the guess was too great
      have h4 : (rd u (i : Int) - c - b) % 4294967296 = rd u (i : Int) - c - b + 4294967296 := by omega
      have h5 : lv (u.set i ((rd u (i : Int) - c - b) % 4294967296)) = lv u0 - g * lv d + BP (i + 1) := by
        rw [h1, h2, ← hs i (Nat.le_refl _), BP_succ, h4]
        rw [h3] at hv
        rw [hv]
        generalize rd u (i : Int) = x
        grind
      have hlt : ¬ g * lv d ≤ lv u0 := by omega
      have hgpos : 1 ≤ g := by
        refine Int.not_lt.1 fun h => hlt ?_
        have : g = 0 := by omega
        rw [this, Int.zero_mul]
        exact lv_nonneg hu0
      obtain ⟨r, hr1, hr2, hr3, hr4⟩ := step_l2 d hd i hn hn1 g ⟨hgpos, by omega⟩ (u.set i ((rd u (i : Int) - c - b) % 4294967296)) lr i 0 (u.set i ((rd u (i : Int) - c - b) % 4294967296)) 0 (by omega) hr lr ⟨by decide, by decide⟩
        (by rw [Int.mul_zero]; rfl) (fun _ _ => rfl)
      refine ⟨g - 1, r, ?_, hr2, hr3, fun h => absurd h hlt, fun _ => ⟨rfl, ?_⟩⟩
      · refine Ev.succ (fun k => ?_) hr1
        simp only [N1step.l1]
        rw [if_neg (ix_nlt (Nat.le_refl _)), if_pos (ix_nn _), if_pos (ix_lt c1), e1, hsub, Option.bind_some, Option.bind_some, if_neg (by rw [if_pos hneg]; exact (by decide : ¬ (1 : Int) = 0)), Int.toNat_natCast, hn]
        rfl
      · rw [hr4, h5]
        have e : lv u0 - g * lv d + BP (i + 1) + lv d = lv u0 - g * lv d + lv d + BP (i + 1) * 1 := by omega
        rw [e, Int.add_mul_emod_self_left]
    · have h4 : (rd u (i : Int) - c - b) % 4294967296 = rd u (i : Int) - c - b := by omega
      have h5 : lv (u.set i ((rd u (i : Int) - c - b) % 4294967296)) = lv u0 - g * lv d := by
        rw [h1, h2, ← hs i (Nat.le_refl _), h4]
        rw [h3] at hv
        rw [hv]
        generalize rd u (i : Int) = x
        grind
      refine ⟨g, u.set i ((rd u (i : Int) - c - b) % 4294967296), ?_, hr, lr, fun _ => ⟨rfl, h5⟩, fun h => absurd (by omega) h⟩
      refine Ev.succ (h := fun k => some (g, u.set i ((rd u (i : Int) - c - b) % 4294967296))) (fun k => ?_) (Ev.of fun _ => rfl)
      simp only [N1step.l1]
      rw [if_neg (ix_nlt (Nat.le_refl _)), if_pos (ix_nn _), if_pos (ix_lt c1), e1, hsub, Option.bind_some, Option.bind_some, if_pos (by rw [if_neg hneg]), hg0, Int.toNat_natCast]
  | succ m ih =>
    intro i u c b hi hu lu hc hb hv hs
    have c1 : i < d.length := by omega
    have c2 : i < u.length := by omega
    have c3 : i ≤ 4611686018427387904 := by omega
    have c4 : i + 1 + m = n := by omega
    have c5 : i < n := by omega
    have hui := rd_ok hu (i : Int)
    have hdi := rd_ok hd (i : Int)
    have ht := mul_limb hg hdi ⟨Int.le_refl 0, by decide⟩ hc
    rw [Int.add_zero] at ht
    have w1 : IntKind.u64.wrap (rd d (i : Int)) = rd d (i : Int) := wu64 _ (by omega) (by omega)
    have w2 : IntKind.u64.wrap (g * rd d (i : Int)) = g * rd d (i : Int) := wu64 _ (by omega) (by omega)
    have w3 : IntKind.u64.wrap (g * rd d (i : Int) + c) = g * rd d (i : Int) + c := wu64 _ (by omega) (by omega)
    have q0 : 0 ≤ (g * rd d (i : Int) + c) % 4294967296 := Int.emod_nonneg _ (by decide)
    have q1 : (g * rd d (i : Int) + c) % 4294967296 < 4294967296 := Int.emod_lt_of_pos _ (by decide)
    have q2 : 0 ≤ (g * rd d (i : Int) + c) / 4294967296 ∧ (g * rd d (i : Int) + c) / 4294967296 < 4294967296 := by
      revert ht
      generalize g * rd d (i : Int) + c = t
      intro ht
      omega
    have hsub := Sub32_is hui ⟨q0, q1⟩ hb
    have h2 := ih (i + 1) (u.set i ((rd u (i : Int) - (g * rd d (i : Int) + c) % 4294967296 - b) % 4294967296)) ((g * rd d (i : Int) + c) / 4294967296) (if rd u (i : Int) - (g * rd d (i : Int) + c) % 4294967296 - b < 0 then 1 else 0) c4
      (lok_set hu (Int.emod_nonneg _ (by decide)) (Int.emod_lt_of_pos _ (by decide)) _) (by rw [List.length_set]; exact lu) q2 (by split <;> decide)
      (by
        rw [lv_set_take u i _ c2, lv_take_rd u0, lv_take_rd d, BP_succ, ← hs i (Nat.le_refl _)]
        have e := Int.mul_ediv_add_emod (g * rd d (i : Int) + c) 4294967296
        have e2 : (rd u (i : Int) - (g * rd d (i : Int) + c) % 4294967296 - b) % 4294967296 = rd u (i : Int) - (g * rd d (i : Int) + c) % 4294967296 - b + 4294967296 * (if rd u (i : Int) - (g * rd d (i : Int) + c) % 4294967296 - b < 0 then 1 else 0) := by split <;> omega
        rw [e2]
        generalize (if rd u (i : Int) - (g * rd d (i : Int) + c) % 4294967296 - b < 0 then (1 : Int) else 0) = z
        revert hv e
        generalize (g * rd d (i : Int) + c) % 4294967296 = p
        generalize (g * rd d (i : Int) + c) / 4294967296 = q
        generalize rd u (i : Int) = x
        generalize rd d (i : Int) = y
        intro hv e
        rw [hv]
        grind)
      (fun j hj => by rw [rd_set_ne _ _ (by omega)]; exact hs j (by omega))
    obtain ⟨o, r, hr1, hr2⟩ := h2
    refine ⟨o, r, Ev.succ (fun k => ?_) hr1, hr2⟩
    simp only [N1step.l1]
    rw [if_pos (ix_lt c5), if_pos (ix_nn _), if_pos (ix_lt c1), if_pos (ix_lt c2), w1, w2, w3, hsub, Option.bind_some, ix_succ c3, Int.toNat_natCast]
def Stepped (u d : List Int) (n : Nat) (g : Nat → Option (Int × List Int)) : Prop :=
  ∃ r, Ev g (lv u / lv d, r) ∧ lok r ∧ r.length = n + 1 ∧ lv r = lv u % lv d
theorem step_j2 (u d : List Int) (hu : lok u) (hd : lok d) (n : Nat) (hn : d.length = n) (lu : u.length = n + 1) (hn1 : n ≤ 1099511627776) (hpos : 0 < lv d) (g : Int) (hg : 0 ≤ g ∧ g < 4294967296) (h0 : lv u / lv d ≤ g) (h1 : g ≤ lv u / lv d + 1) :
    Stepped u d n (fun k => N1step.j2 k u d (n : Int) g) := by
  obtain ⟨o, r, hr1, hr2, hr3, hr4, hr5⟩ := step_l1 d hd n hn hn1 g hg u hu lu n 0 u 0 0 (by omega) hu lu ⟨by decide, by decide⟩ ⟨by decide, by decide⟩
    (by rw [List.take_zero, List.take_zero]; show (0 : Int) = 0 - g * 0 + BP 0 * (0 + 0); rw [Int.mul_zero, Int.add_zero, Int.mul_zero]; rfl) (fun _ _ => rfl)
  have hdm := Int.mul_ediv_add_emod (lv u) (lv d)
  have hm0 := Int.emod_nonneg (lv u) (show lv d ≠ 0 by omega)
  have hm1 := Int.emod_lt_of_pos (lv u) hpos
  have key : o = lv u / lv d ∧ lv r = lv u % lv d := by
    by_cases hle : g * lv d ≤ lv u
    · obtain ⟨e1, e2⟩ := hr4 hle
      have h2 : g ≤ lv u / lv d := Int.le_ediv_of_mul_le hpos hle
      have h3 : g = lv u / lv d := by omega
      refine ⟨by omega, ?_⟩
      rw [e2, h3, Int.mul_comm]
      omega
    · obtain ⟨e1, e2⟩ := hr5 hle
      have h3 : g = lv u / lv d + 1 := by
        rcases Int.lt_or_le (lv u / lv d) g with h | h
        · omega
        · exact absurd (Int.le_trans (Int.mul_le_mul_of_nonneg_right h (by omega)) (by rw [Int.mul_comm]; omega)) hle
      refine ⟨by omega, ?_⟩
      have h4 : lv u - g * lv d + lv d = lv u % lv d := by rw [h3]; grind
      rw [e2, h4]
      have h5 := lv_lt hd
      rw [hn] at h5
      have h6 := BP_le (show n ≤ n + 1 by omega)
      exact Int.emod_eq_of_lt hm0 (by omega)
  obtain ⟨rfl, e⟩ := key
  refine ⟨r, Ev.succ (fun k => ?_) hr1, hr2, hr3, e⟩
  simp only [N1step.j2]
  rw [hn]
  rfl
section
variable (u d : List Int) (hu : lok u) (hd : lok d) (n : Nat) (hn : d.length = n + 2) (lu : u.length = n + 3) (hn1 : n ≤ 549755813888) (hd1 : 2147483648 ≤ rd d ((n + 1 : Nat) : Int)) (hlt : lv u < lv d * 4294967296)
theorem step_l0 (hu : lok u) (hd : lok d) (hn : d.length = n + 2) (lu : u.length = n + 3) (hn1 : n ≤ 549755813888) (hd1 : 2147483648 ≤ rd d ((n + 1 : Nat) : Int)) (hlt : lv u < lv d * 4294967296) (m : Nat) : ∀ (g rest : Int), g * rd d ((n + 1 : Nat) : Int) + rest = rd u ((n + 2 : Nat) : Int) * 4294967296 + rd u ((n + 1 : Nat) : Int) → 0 ≤ rest → rest < 4294967296 → 0 ≤ g → g < 9223372036854775808 → lv u / lv d ≤ g → 4294967296 ≤ rest + (m : Int) * 2147483648 →
    Stepped u d (n + 2) (fun k => N1step.l0 k u d ((n + 2 : Nat) : Int) g rest) := by
  have ed : lv d = (rd d ((n + 1 : Nat) : Int) * 4294967296 + rd d (n : Int)) * BP n + lv (d.take n) := by
    have h1 := lv_all d (n + 1) hn
    have h2 := lv_take_rd d n
    rw [h1, h2, BP_succ]; grind
  have eu : lv u = ((rd u ((n + 2 : Nat) : Int) * 4294967296 + rd u ((n + 1 : Nat) : Int)) * 4294967296 + rd u (n : Int)) * BP n + lv (u.take n) := by
    have h1 := lv_all u (n + 2) lu
    have h2 := lv_take_rd u (n + 1)
    have h3 := lv_take_rd u n
    rw [h1, h2, h3, BP_succ (n + 1), BP_succ n]; generalize rd u ((n + 2 : Nat) : Int) = x1; generalize rd u ((n + 1 : Nat) : Int) = x2; generalize rd u (n : Int) = x3; grind
  have hP := BP_pos n
  have r0 := lv_nonneg (lok_take hd n)
  have r1 := lv_lt (lok_take hd n)
  have w0 := lv_nonneg (lok_take hu n)
  have w1 := lv_lt (lok_take hu n)
  rw [List.length_take, Nat.min_eq_left (by omega)] at r1 w1
  have b1 := rd_ok hd ((n + 1 : Nat) : Int)
  have b2 := rd_ok hd (n : Int)
  have b3 := rd_ok hu (n : Int)
  have b4 := rd_ok hu ((n + 1 : Nat) : Int)
  have b5 := rd_ok hu ((n + 2 : Nat) : Int)
  have hdpos : 0 < lv d := by
    rw [ed]
    have h1 : 0 < rd d ((n + 1 : Nat) : Int) * 4294967296 + rd d (n : Int) := by omega
    have := Int.mul_pos h1 hP
    omega
  have hqB : lv u / lv d < 4294967296 := Int.ediv_lt_of_lt_mul hdpos (by rw [Int.mul_comm]; exact hlt)
  have hq0 : 0 ≤ lv u / lv d := Int.ediv_nonneg (lv_nonneg hu) (by omega)
  have hqle : lv u / lv d * lv d ≤ lv u := Int.ediv_mul_le _ (by omega)
  -- the top of the dividend
  have htop : rd u ((n + 2 : Nat) : Int) * 4294967296 + rd u ((n + 1 : Nat) : Int) < (rd d ((n + 1 : Nat) : Int) + 1) * 4294967296 := by
    have h1 : (rd u ((n + 2 : Nat) : Int) * 4294967296 + rd u ((n + 1 : Nat) : Int)) * (4294967296 * BP n) < (rd d ((n + 1 : Nat) : Int) + 1) * 4294967296 * (4294967296 * BP n) := by
      have h2 : 0 ≤ rd u (n : Int) * BP n := Int.mul_nonneg b3.1 (by omega)
      have h3 : (rd d (n : Int) + 1) * BP n ≤ 4294967296 * BP n := Int.mul_le_mul_of_nonneg_right (by omega) (by omega)
      rw [ed, eu] at hlt
      revert hlt h2 h3
      generalize rd u ((n + 2 : Nat) : Int) = x1
      generalize rd u ((n + 1 : Nat) : Int) = x2
      generalize rd u (n : Int) = x3
      generalize rd d ((n + 1 : Nat) : Int) = y1
      generalize rd d (n : Int) = y2
      intro hlt h2 h3
      grind
    exact mul_lt_cancel (Int.mul_pos (by decide) hP) h1
  have hn2 : n + 2 ≤ 1099511627776 := by omega
  have i1 : wrap64 (((n + 2 : Nat) : Int) - 1) = ((n + 1 : Nat) : Int) := by rw [w64 (by omega) (by omega)]; omega
  have i2 : wrap64 (((n + 2 : Nat) : Int) - 2) = (n : Int) := by rw [w64 (by omega) (by omega)]; omega
  have j1 : n + 1 < d.length := by omega
  have j2 : n < d.length := by omega
  have j3 : n < u.length := by omega
  have v1 : IntKind.u64.wrap (rd d ((n + 1 : Nat) : Int)) = rd d ((n + 1 : Nat) : Int) := wu64 _ (by omega) (by omega)
  have v2 : IntKind.u64.wrap (rd d (n : Int)) = rd d (n : Int) := wu64 _ (by omega) (by omega)
  have v3 : IntKind.u64.wrap (rd u (n : Int)) = rd u (n : Int) := wu64 _ (by omega) (by omega)
  -- a guess that is too great by some: one less
  have down : ∀ (g rest : Int), g * rd d ((n + 1 : Nat) : Int) + rest = rd u ((n + 2 : Nat) : Int) * 4294967296 + rd u ((n + 1 : Nat) : Int) → 0 ≤ rest → rest < 4294967296 → 1 ≤ g → g < 9223372036854775808 → lv u / lv d ≤ g - 1 →
      (rest + rd d ((n + 1 : Nat) : Int) < 4294967296 → Stepped u d (n + 2) (fun k => N1step.l0 k u d ((n + 2 : Nat) : Int) (g - 1) (rest + rd d ((n + 1 : Nat) : Int)))) →
      Stepped u d (n + 2) (fun k => N1step.j1 k u d ((n + 2 : Nat) : Int) g rest true) := by
    intro g rest he hr0 hr1 hg0 hg1 hq hrec
    have v4 : IntKind.u64.wrap (rest + rd d ((n + 1 : Nat) : Int)) = rest + rd d ((n + 1 : Nat) : Int) := wu64 _ (by omega) (by omega)
    have v5 : IntKind.u64.wrap (g - 1) = g - 1 := wu64 _ (by omega) (by omega)
    by_cases hbr : rest + rd d ((n + 1 : Nat) : Int) ≥ 4294967296
    · have he2 : (g - 1) * rd d ((n + 1 : Nat) : Int) + (rest + rd d ((n + 1 : Nat) : Int)) = rd u ((n + 2 : Nat) : Int) * 4294967296 + rd u ((n + 1 : Nat) : Int) := by rw [← he]; grind
      have hgB : g - 1 < 4294967296 := by
        have h1 : (g - 1) * rd d ((n + 1 : Nat) : Int) < 4294967296 * rd d ((n + 1 : Nat) : Int) := by omega
        exact Int.lt_of_mul_lt_mul_right h1 (by omega)
      have hkb := kn_break (B := 4294967296) (d2 := rd d (n : Int)) (rest := rest + rd d ((n + 1 : Nat) : Int)) (u2 := rd u (n : Int)) (guess := g - 1) (by decide) (by omega) (by omega) (by omega) hbr b3.1
      have hku := kn_up (B := 4294967296) (P := BP n) (d1 := rd d ((n + 1 : Nat) : Int)) (d2 := rd d (n : Int)) (r := lv (d.take n)) (u2 := rd u (n : Int)) (w := lv (u.take n)) (guess := g - 1) (rest := rest + rd d ((n + 1 : Nat) : Int)) hP r1 r0 w0 (by omega) (by omega) b2.1 (by omega) (by decide) hkb
      rw [← ed, he2, ← eu] at hku
      have hup : g - 1 - 1 ≤ lv u / lv d := Int.le_ediv_of_mul_le hdpos hku
      obtain ⟨r, hr1', hr2'⟩ := step_j2 u d hu hd (n + 2) hn lu hn2 hdpos (g - 1) ⟨by omega, hgB⟩ hq (by omega)
      refine ⟨r, Ev.succ (fun k => ?_) hr1', hr2'⟩
      simp only [N1step.j1]
      rw [if_pos trivial, i1, v1, v4, v5, if_pos (ix_nn _), if_pos (ix_lt j1), if_pos hbr]
    · obtain ⟨r, hr1', hr2'⟩ := hrec (by omega)
      refine ⟨r, Ev.succ (fun k => ?_) hr1', hr2'⟩
      simp only [N1step.j1]
      rw [if_pos trivial, i1, v1, v4, v5, if_pos (ix_nn _), if_pos (ix_lt j1), if_neg hbr]
  induction m with
  | zero => intro g rest he hr0 hr1 hg0 hg1 hq hm; omega
  | succ m ih =>
    intro g rest he hr0 hr1 hg0 hg1 hq hm
    have hrec : 1 ≤ g → lv u / lv d ≤ g - 1 → rest + rd d ((n + 1 : Nat) : Int) < 4294967296 → Stepped u d (n + 2) (fun k => N1step.l0 k u d ((n + 2 : Nat) : Int) (g - 1) (rest + rd d ((n + 1 : Nat) : Int))) := fun hg2 hq2 hr2 =>
      ih (g - 1) (rest + rd d ((n + 1 : Nat) : Int)) (by rw [← he]; grind) (by omega) hr2 (by omega) (by omega) hq2 (by
        have e : ((m + 1 : Nat) : Int) * 2147483648 = (m : Int) * 2147483648 + 2147483648 := by omega
        omega)
    by_cases hge : g ≥ 4294967296
    · obtain ⟨r, h1, h2⟩ := down g rest he hr0 hr1 (by omega) hg1 (by omega) (hrec (by omega) (by omega))
      refine ⟨r, Ev.succ (fun k => ?_) h1, h2⟩
      simp only [N1step.l0]
      rw [if_pos hge]
    · have hgB : g < 4294967296 := by omega
      have hmul := mul_limb ⟨hg0, hgB⟩ b2 ⟨Int.le_refl 0, by decide⟩ ⟨Int.le_refl 0, by decide⟩
      have v4 : IntKind.u64.wrap (g * rd d (n : Int)) = g * rd d (n : Int) := wu64 _ (by omega) (by omega)
      have v5 : IntKind.u64.wrap (rest * 4294967296) = rest * 4294967296 := wu64 _ (by omega) (by omega)
      have v6 : Go.bits .or .u64 (rest * 4294967296) (rd u (n : Int)) = rest * 4294967296 + rd u (n : Int) := or64 hr0 hr1 b3.1 b3.2
      by_cases hc : g * rd d (n : Int) > rest * 4294967296 + rd u (n : Int)
      · have hg2 : 1 ≤ g := by
          refine Int.not_lt.1 fun h => ?_
          have : g = 0 := by omega
          rw [this, Int.zero_mul] at hc
          omega
        have hD : 0 ≤ (rd d ((n + 1 : Nat) : Int) * 4294967296 + rd d (n : Int)) * BP n + lv (d.take n) := by rw [← ed]; omega
        have hq2 : lv u / lv d ≤ g - 1 := kn_down (B := 4294967296) (P := BP n) (d1 := rd d ((n + 1 : Nat) : Int)) (d2 := rd d (n : Int)) (r := lv (d.take n)) (u2 := rd u (n : Int)) (w := lv (u.take n)) (rest := rest) hP r0 w1 hg0 hD
          (by rw [← ed, he, ← eu]; exact hqle) hc
        obtain ⟨r, h1, h2⟩ := down g rest he hr0 hr1 hg2 hg1 hq2 (hrec hg2 hq2)
        refine ⟨r, Ev.succ (fun k => ?_) h1, h2⟩
        simp only [N1step.l0]
        rw [if_neg hge, i2, v2, v3, v4, v5, v6, if_pos (ix_nn _), if_pos (ix_lt j2), if_pos (ix_lt j3), decide_eq_true hc]
      · have hku := kn_up (B := 4294967296) (P := BP n) (d1 := rd d ((n + 1 : Nat) : Int)) (d2 := rd d (n : Int)) (r := lv (d.take n)) (u2 := rd u (n : Int)) (w := lv (u.take n)) (guess := g) (rest := rest) hP r1 r0 w0 hg0 (by omega) b2.1 (by omega) (by decide) (by omega)
        rw [← ed, he, ← eu] at hku
        have hup : g - 1 ≤ lv u / lv d := Int.le_ediv_of_mul_le hdpos hku
        obtain ⟨r, h1, h2⟩ := step_j2 u d hu hd (n + 2) hn lu hn2 hdpos g ⟨hg0, hgB⟩ hq (by omega)
        refine ⟨r, Ev.succ (h := fun k => N1step.j1 k u d ((n + 2 : Nat) : Int) g rest false) (fun k => ?_) (Ev.succ (fun k => ?_) h1), h2⟩
        · simp only [N1step.l0]
          rw [if_neg hge, i2, v2, v3, v4, v5, v6, if_pos (ix_nn _), if_pos (ix_lt j2), if_pos (ix_lt j3), decide_eq_false hc]
        · simp only [N1step.j1]
          rw [if_neg (by decide)]
theorem step_ev (hu : lok u) (hd : lok d) (hn : d.length = n + 2) (lu : u.length = n + 3) (hn1 : n ≤ 549755813888) (hd1 : 2147483648 ≤ rd d ((n + 1 : Nat) : Int)) (hlt : lv u < lv d * 4294967296) :
    Stepped u d (n + 2) (fun k => N1step.f k u d) := by
  have b1 := rd_ok hd ((n + 1 : Nat) : Int)
  have b4 := rd_ok hu ((n + 1 : Nat) : Int)
  have b5 := rd_ok hu ((n + 2 : Nat) : Int)
  have hp : (0 : Int) < rd d ((n + 1 : Nat) : Int) := by omega
  have hdm := Int.mul_ediv_add_emod (rd u ((n + 2 : Nat) : Int) * 4294967296 + rd u ((n + 1 : Nat) : Int)) (rd d ((n + 1 : Nat) : Int))
  have hm0 := Int.emod_nonneg (rd u ((n + 2 : Nat) : Int) * 4294967296 + rd u ((n + 1 : Nat) : Int)) (show rd d ((n + 1 : Nat) : Int) ≠ 0 by omega)
  have hm1 := Int.emod_lt_of_pos (rd u ((n + 2 : Nat) : Int) * 4294967296 + rd u ((n + 1 : Nat) : Int)) hp
  have hg0 : 0 ≤ (rd u ((n + 2 : Nat) : Int) * 4294967296 + rd u ((n + 1 : Nat) : Int)) / rd d ((n + 1 : Nat) : Int) := Int.ediv_nonneg (by omega) (by omega)
  have hg1 : (rd u ((n + 2 : Nat) : Int) * 4294967296 + rd u ((n + 1 : Nat) : Int)) / rd d ((n + 1 : Nat) : Int) < 9223372036854775808 := Int.ediv_lt_of_lt_mul hp (by omega)
  have hq : lv u / lv d ≤ (rd u ((n + 2 : Nat) : Int) * 4294967296 + rd u ((n + 1 : Nat) : Int)) / rd d ((n + 1 : Nat) : Int) := by
    have ed : lv d = (rd d ((n + 1 : Nat) : Int) * 4294967296 + rd d (n : Int)) * BP n + lv (d.take n) := by
      have h1 := lv_all d (n + 1) hn
      have h2 := lv_take_rd d n
      rw [h1, h2, BP_succ]; grind
    have eu : lv u = ((rd u ((n + 2 : Nat) : Int) * 4294967296 + rd u ((n + 1 : Nat) : Int)) * 4294967296 + rd u (n : Int)) * BP n + lv (u.take n) := by
      have h1 := lv_all u (n + 2) lu
      have h2 := lv_take_rd u (n + 1)
      have h3 := lv_take_rd u n
      rw [h1, h2, h3, BP_succ (n + 1), BP_succ n]; generalize rd u ((n + 2 : Nat) : Int) = x1; generalize rd u ((n + 1 : Nat) : Int) = x2; generalize rd u (n : Int) = x3; grind
    have hP := BP_pos n
    have r0 := lv_nonneg (lok_take hd n)
    have w1 := lv_lt (lok_take hu n)
    rw [List.length_take, Nat.min_eq_left (by omega)] at w1
    have b2 := rd_ok hd (n : Int)
    have b3 := rd_ok hu (n : Int)
    have hdpos : 0 < lv d := by
      rw [ed]
      have h1 : 0 < rd d ((n + 1 : Nat) : Int) * 4294967296 + rd d (n : Int) := by omega
      have := Int.mul_pos h1 hP
      omega
    have hq0 : 0 ≤ lv u / lv d := Int.ediv_nonneg (lv_nonneg hu) (by omega)
    have hqle : lv u / lv d * lv d ≤ lv u := Int.ediv_mul_le _ (by omega)
    have h := kn_top (B := 4294967296) (P := BP n) (d1 := rd d ((n + 1 : Nat) : Int)) (d2 := rd d (n : Int)) (r := lv (d.take n)) (T := rd u ((n + 2 : Nat) : Int) * 4294967296 + rd u ((n + 1 : Nat) : Int)) (u2 := rd u (n : Int)) (w := lv (u.take n)) (q := lv u / lv d) (by decide) hP b2.1 r0 b3.2 w1 hq0
      (by rw [← ed, ← eu]; exact hqle)
    exact Int.le_ediv_of_mul_le hp h
  obtain ⟨r, h1, h2⟩ := step_l0 u d n hu hd hn lu hn1 hd1 hlt 2 _ _ (by rw [Int.mul_comm]; exact hdm) hm0 (by omega) hg0 hg1 hq (by omega)
  refine ⟨r, Ev.congr (fun k => ?_) h1, h2⟩
  have i1 : wrap64 (((n + 2 : Nat) : Int) - 1) = ((n + 1 : Nat) : Int) := by rw [w64 (by omega) (by omega)]; omega
  have j0 : n + 2 < u.length := by omega
  have j1 : n + 1 < d.length := by omega
  have j3 : n + 1 < u.length := by omega
  have v1 : IntKind.u64.wrap (rd d ((n + 1 : Nat) : Int)) = rd d ((n + 1 : Nat) : Int) := wu64 _ (by omega) (by omega)
  have v2 : IntKind.u64.wrap (rd u ((n + 1 : Nat) : Int)) = rd u ((n + 1 : Nat) : Int) := wu64 _ (by omega) (by omega)
  have v3 : IntKind.u64.wrap (rd u ((n + 2 : Nat) : Int)) = rd u ((n + 2 : Nat) : Int) := wu64 _ (by omega) (by omega)
  have v4 : IntKind.u64.wrap (rd u ((n + 2 : Nat) : Int) * 4294967296) = rd u ((n + 2 : Nat) : Int) * 4294967296 := wu64 _ (by omega) (by omega)
  have v5 : Go.bits .or .u64 (rd u ((n + 2 : Nat) : Int) * 4294967296) (rd u ((n + 1 : Nat) : Int)) = rd u ((n + 2 : Nat) : Int) * 4294967296 + rd u ((n + 1 : Nat) : Int) := or64 b5.1 b5.2 b4.1 b4.2
  have v6 : Int.tdiv (rd u ((n + 2 : Nat) : Int) * 4294967296 + rd u ((n + 1 : Nat) : Int)) (rd d ((n + 1 : Nat) : Int)) = (rd u ((n + 2 : Nat) : Int) * 4294967296 + rd u ((n + 1 : Nat) : Int)) / rd d ((n + 1 : Nat) : Int) := Int.tdiv_eq_ediv_of_nonneg (by omega)
  have v7 : Int.tmod (rd u ((n + 2 : Nat) : Int) * 4294967296 + rd u ((n + 1 : Nat) : Int)) (rd d ((n + 1 : Nat) : Int)) = (rd u ((n + 2 : Nat) : Int) * 4294967296 + rd u ((n + 1 : Nat) : Int)) % rd d ((n + 1 : Nat) : Int) := Int.tmod_eq_emod_of_nonneg (by omega)
  have v8 := wu64 ((rd u ((n + 2 : Nat) : Int) * 4294967296 + rd u ((n + 1 : Nat) : Int)) / rd d ((n + 1 : Nat) : Int)) hg0 (by omega)
  unfold N1step.f
  rw [hn, if_pos (ix_nn _), if_pos (ix_lt j0), i1, if_pos (ix_nn _), if_pos (ix_lt j3), if_pos (by rw [← hn]; exact ix_lt j1), v1, if_neg (by omega), v2, v3, v4, v5, v6, v7, v8]
end
theorem BP_inj_lt {a b P : Int} (hP : 0 < P) (h : P * a < P * b) : a < b := Int.lt_of_mul_lt_mul_left h (by omega)
theorem rg1 (t b x c y : Int) : t + b * x + b * c * y = t + b * (x + c * y) := by grind
theorem rg2 (t b x c y : Int) : t + b * (x + c * y) = t + b * x + b * c * y := by grind
theorem rg3 {b n j c : Int} (hb : b = c * n) : n * (c * j) = j * b := by rw [hb]; grind
theorem rg4 {u t b x d : Int} (hu : u = t + b * x) (ht : 0 ≤ t) (h : u < d * (4294967296 * b)) : b * x < b * (d * 4294967296) := by
  have e : d * (4294967296 * b) = b * (d * 4294967296) := by grind
  rw [e] at h
  omega
theorem rg5 {t b x d : Int} (ht : t < b) (hb : 0 < b) (hx : x < d) : t + b * x < d * b := by
  have h3 : b * x ≤ b * (d - 1) := Int.mul_le_mul_of_nonneg_left (by omega) (by omega)
  have e : b * (d - 1) = d * b - b := by grind
  omega
theorem rg6 (t b d q m h w : Int) (e : d * q + m = w) : d * (4294967296 * b) * h + (t + b * w) = d * b * (q + 4294967296 * h) + (t + b * m) := by
  rw [← e]; grind
theorem rg7 {a p N Q d : Int} (h2 : a < N * Q) (h4 : a * p ≤ a * 2147483648) (h7 : N * 2147483648 * Q ≤ d * Q) : a * p < d * Q := by
  have e : N * 2147483648 * Q = N * Q * 2147483648 := by grind
  rw [e] at h7
  generalize N * Q = x at *
  omega
theorem divide_l0 (s : Nat) (hs : s ≤ 31) (d : List Int) (hd : lok d) (n : Nat) (hn : d.length = n + 2) (hn1 : n ≤ 274877906944) (hd1 : 2147483648 ≤ rd d ((n + 1 : Nat) : Int)) (U : Int) (q : Nat) (hq1 : q ≤ 549755813888) (j : Nat) : ∀ (u o : List Int), j ≤ q → lok u → u.length = q + (n + 2) → lok o → o.length = q →
    lv u < lv d * BP j → U = lv d * BP j * lv (o.drop j) + lv u →
    Ev (fun k => N1divide.l0 k (s : Int) ((n + 2 : Nat) : Int) d u o ((j : Int) - 1)) (lm (U / lv d).toNat, lm (U % lv d / 2 ^ s).toNat) := by
  have hdB := lv_lt hd
  rw [hn] at hdB
  induction j with
  | zero =>
    intro u o _ hu lu ho lo hlt hU
    rw [List.drop_zero, BP_zero, Int.mul_one] at hU
    rw [BP_zero, Int.mul_one] at hlt
    have hu0 := lv_nonneg hu
    have e1 : U / lv d = lv o := by
      rw [hU, Int.add_comm, Int.add_mul_ediv_left _ _ (by omega), Int.ediv_eq_zero_of_lt hu0 hlt, Int.zero_add]
    have e2 : U % lv d = lv u := by
      rw [hU, Int.add_comm, Int.add_mul_emod_self_left, Int.emod_eq_of_lt hu0 hlt]
    rw [e1, e2]
    have c1 : n + 2 ≤ u.length := by omega
    have e3 : lv (u.take (n + 2)) = lv u := by
      have h1 := lv_split u (n + 2) c1
      have h2 := lv_nonneg (lok_take hu (n + 2))
      have h3 := lv_nonneg (lok_drop hu (n + 2))
      have h4 : BP (n + 2) * lv (u.drop (n + 2)) < BP (n + 2) * 1 := by rw [Int.mul_one]; omega
      have h5 := BP_inj_lt (BP_pos (n + 2)) h4
      have h6 : lv (u.drop (n + 2)) = 0 := by omega
      rw [h6, Int.mul_zero] at h1
      omega
    have ht := trim_ev ho (show o.length ≤ 70368744177664 by omega)
    have hu2 := unshift_ev (lok_take hu (n + 2)) (show (u.take (n + 2)).length ≤ 549755813888 by rw [List.length_take]; omega) hs
    rw [e3] at hu2
    refine Ev.succ (h := fun k => (N1limbs_trim.f k o).bind fun t => (N1unshift.f k (u.take (n + 2)) (s : Int)).bind fun t2 => some (t, t2)) (fun k => ?_) (Ev.bind ht (Ev.bind hu2 (Ev.of fun _ => rfl)))
    simp only [N1divide.l0]
    rw [if_neg (by decide)]
    refine congrArg _ (funext fun t => ?_)
    rw [if_pos (ix_nn _), if_pos (ix_le c1), Int.toNat_natCast]
  | succ j ih =>
    intro u o hj hu lu ho lo hlt hU
    have c1 : j ≤ u.length := by omega
    have c2 : j + (n + 2) + 1 ≤ u.length := by omega
    have c3 : j < o.length := by omega
    have c5 : j ≤ j + (n + 2) + 1 := by omega
    have c6 : j + (n + 2) ≤ 4611686018427387904 := by omega
    have c7 : j + (n + 2) + 1 ≤ 4611686018427387904 := by omega
    have c8 : ((u.take (j + (n + 2) + 1)).drop j).length = n + 3 := by rw [List.length_drop, List.length_take]; omega
    have c9 : u.length - (j + (n + 2) + 1) + (n + 3) + j = q + (n + 2) := by omega
    have c10 : j ≤ q := by omega
    have c11 : n ≤ 549755813888 := by omega
    have ep : (u.take j).length = j := by rw [List.length_take]; omega
    have i1 : ((j + 1 : Nat) : Int) - 1 = (j : Int) := by omega
    have c12 : j ≤ (u.take (j + (n + 2) + 1)).length := by rw [List.length_take]; omega
    have c13 : j + (n + 2) + 1 = j + (n + 3) := by omega
    have c15 : -9223372036854775808 ≤ (j : Int) - 1 := by omega
    have c16 : (j : Int) - 1 ≤ 9223372036854775807 := by omega
    have hPj := BP_pos j
    have hB1 : BP (j + 1) = 4294967296 * BP j := BP_succ j
    -- the window
    have lW := c8
    have hW : lok ((u.take (j + (n + 2) + 1)).drop j) := lok_drop (lok_take hu _) _
    have hsp : lv u = lv (u.take j) + BP j * (lv ((u.take (j + (n + 2) + 1)).drop j) + BP (n + 3) * lv (u.drop (j + (n + 2) + 1))) := by
      have h1 := lv_split u (j + (n + 2) + 1) c2
      have h2 := lv_split (u.take (j + (n + 2) + 1)) j c12
      rw [List.take_take, Nat.min_eq_left c5] at h2
      rw [h1, h2, c13, BP_add]
      exact rg1 _ _ _ _ _
    have t0 := lv_nonneg (lok_take hu j)
    have t1 := lv_lt (lok_take hu j)
    rw [List.length_take, Nat.min_eq_left c1] at t1
    have w0 := lv_nonneg hW
    have z0 := lv_nonneg (lok_drop hu (j + (n + 2) + 1))
    have hBn : BP (n + 3) = 4294967296 * BP (n + 2) := BP_succ (n + 2)
    have hPn := BP_pos (n + 2)
    have hz : lv (u.drop (j + (n + 2) + 1)) = 0 := by
      have h1 : lv d * BP (j + 1) ≤ BP (n + 2) * BP (j + 1) := Int.mul_le_mul_of_nonneg_right (by omega) (by rw [hB1]; omega)
      have h2 : 0 ≤ BP j * lv ((u.take (j + (n + 2) + 1)).drop j) := Int.mul_nonneg (by omega) w0
      have h3 : (BP j * BP (n + 3)) * lv (u.drop (j + (n + 2) + 1)) < (BP j * BP (n + 3)) * 1 := by
        have h5 := rg3 (j := BP j) hBn
        rw [← hB1] at h5
        rw [rg2] at hsp
        rw [h5] at h1
        rw [Int.mul_one]
        clear h5 hBn hB1 hPn
        generalize BP j * lv ((u.take (j + (n + 2) + 1)).drop j) = x1 at *
        generalize BP j * BP (n + 3) * lv (u.drop (j + (n + 2) + 1)) = x2 at *
        generalize BP j * BP (n + 3) = x3 at *
        generalize lv d * BP (j + 1) = x4 at *
        generalize lv (u.take j) = x5 at *
        generalize lv u = x6 at *
        clear hU ih
        omega
      have h4 := BP_inj_lt (Int.mul_pos hPj (BP_pos (n + 3))) h3
      omega
    rw [hz, Int.mul_zero, Int.add_zero] at hsp
    have hWlt : lv ((u.take (j + (n + 2) + 1)).drop j) < lv d * 4294967296 := by
      refine BP_inj_lt hPj ?_
      rw [hB1] at hlt
      exact rg4 hsp t0 hlt
    obtain ⟨r, hr1, hr2, hr3, hr4⟩ := step_ev _ d n hW hd hn lW c11 hd1 hWlt
    have hdpos : 0 < lv d := by
      have := lv_ge hd (n + 1)
      have h2 := Int.mul_pos (BP_pos (n + 1)) (show 0 < rd d ((n + 1 : Nat) : Int) by omega)
      omega
    have hdm := Int.mul_ediv_add_emod (lv ((u.take (j + (n + 2) + 1)).drop j)) (lv d)
    have hm0 := Int.emod_nonneg (lv ((u.take (j + (n + 2) + 1)).drop j)) (show lv d ≠ 0 by omega)
    have hm1 := Int.emod_lt_of_pos (lv ((u.take (j + (n + 2) + 1)).drop j)) hdpos
    have g0 : 0 ≤ lv ((u.take (j + (n + 2) + 1)).drop j) / lv d := Int.ediv_nonneg w0 (by omega)
    have g1 : lv ((u.take (j + (n + 2) + 1)).drop j) / lv d < 4294967296 := Int.ediv_lt_of_lt_mul hdpos (by rw [Int.mul_comm]; exact hWlt)
    have lu2 : (u.take j ++ r ++ u.drop (j + (n + 2) + 1)).length = q + (n + 2) := by
      rw [List.length_append, List.length_append, ep, hr3, List.length_drop]; rw [← c9]; clear hlt hU hdB hd1 ih hsp hdm hm0 hm1 g0 g1 hWlt w0 z0 t0 t1 hz hr4; omega
    have vu2 : lv (u.take j ++ r ++ u.drop (j + (n + 2) + 1)) = lv (u.take j) + BP j * lv r := by
      rw [lv_append, lv_append, hz, Int.mul_zero, Int.add_zero, ep]
    have h2 := ih (u.take j ++ r ++ u.drop (j + (n + 2) + 1)) (o.set j (lv ((u.take (j + (n + 2) + 1)).drop j) / lv d)) c10 (lok_append (lok_append (lok_take hu _) hr2) (lok_drop hu _)) lu2 (lok_set ho g0 g1 _) (by rw [List.length_set]; exact lo)
      (by
        rw [vu2, hr4]
        exact rg5 t1 hPj hm1)
      (by
        have e2 : lv ((o.set j (lv ((u.take (j + (n + 2) + 1)).drop j) / lv d)).drop j) = lv ((u.take (j + (n + 2) + 1)).drop j) / lv d + 4294967296 * lv (o.drop (j + 1)) := by
          have c4 : j < (o.set j (lv ((u.take (j + (n + 2) + 1)).drop j) / lv d)).length := by rw [List.length_set]; exact c3
          rw [List.drop_eq_getElem_cons c4, List.getElem_set_self, List.drop_set_of_lt (by omega), lv]
        rw [e2, vu2, hU, hr4, hB1, hsp]
        exact rg6 _ _ _ _ _ _ _ hdm)
    have i2 : wrap64 ((j : Int) + ((n + 2 : Nat) : Int)) = ((j + (n + 2) : Nat) : Int) := ix_add c6
    have i3 : wrap64 (((j + (n + 2) : Nat) : Int) + 1) = ((j + (n + 2) + 1 : Nat) : Int) := ix_succ c6
    have i4 : wrap64 ((j : Int) - 1) = (j : Int) - 1 := w64 c15 c16
    refine Ev.succ (h := fun k => (N1step.f k ((u.take (j + (n + 2) + 1)).drop j) d).bind fun b => N1divide.l0 k (s : Int) ((n + 2 : Nat) : Int) d (u.take j ++ b.2 ++ u.drop (j + (n + 2) + 1)) (o.set j b.1) ((j : Int) - 1)) (fun k => ?_) (Ev.bind hr1 h2)
    simp only [N1divide.l0]
    rw [i1, if_pos (ix_nn _), if_pos (ix_nn _), i2, i3, i4, if_pos (ix_le c5), if_pos (ix_le c2)]
    unfold N1stepc.f
    rw [Option.bind_assoc]
    refine congrArg _ (funext fun t => ?_)
    rw [Option.bind_some, if_pos (ix_lt c3), Int.toNat_natCast, Int.toNat_natCast]
theorem divide_ev (a b : Nat) (hb : 0 < b) (la : (lm a).length ≤ 274877906944) (lb : (lm b).length ≤ 274877906944) : Ev (fun k => N1divide.f k (lm a) (lm b)) (lm (a / b), lm (a % b)) := by
  have ca := lm_can a
  have cb := lm_can b
  have va := lm_lv a
  have vb := lm_lv b
  have hcmp := compare_ev ca cb (by omega) (by omega)
  rw [va, vb] at hcmp
  by_cases hlt : a < b
  · rw [Nat.div_eq_of_lt hlt, Nat.mod_eq_of_lt hlt]
    have e0 : lm 0 = [] := lm_nil.2 rfl
    rw [e0]
    have e : cmpI (a : Int) (b : Int) = -1 := by unfold cmpI; rw [if_pos (by omega)]
    rw [e] at hcmp
    unfold N1divide.f
    exact Ev.bind hcmp (Ev.of fun k => by rw [if_pos (by decide)])
  have e : ¬ cmpI (a : Int) (b : Int) < 0 := by
    unfold cmpI
    rw [if_neg (by omega)]
    split <;> decide
  by_cases h1 : (lm b).length = 1
  · obtain ⟨x, hx⟩ : ∃ x, lm b = [x] := List.length_eq_one_iff.1 h1
    have hxv : x = (b : Int) := by rw [hx] at vb; simp only [lv] at vb; omega
    have hxo := cb.1 x (by rw [hx]; exact List.mem_cons_self)
    subst hxv
    have hds := divideSmall_ev (a := lm a) ca.1 (by omega) (d := (b : Int)) (by omega) hxo.2
    rw [va] at hds
    have e1 : ((a : Int) / (b : Int)).toNat = a / b := by rw [← Int.natCast_ediv]; exact Int.toNat_natCast _
    have e2 : (a : Int) % (b : Int) = ((a % b : Nat) : Int) := by rw [← Int.natCast_emod]
    rw [e1, e2] at hds
    have hm : a % b < b := Nat.mod_lt _ hb
    have ht := trim_ev (l := [((a % b : Nat) : Int)]) (lok_cons (by omega) (by omega) lok_nil) (show (1 : Nat) ≤ _ by decide)
    have e3 : (lv [((a % b : Nat) : Int)]).toNat = a % b := by simp only [lv]; omega
    rw [e3] at ht
    unfold N1divide.f
    refine Ev.bind hcmp ?_
    refine Ev.congr (h := fun k => (N1divideSmall.f k (lm a) (b : Int)).bind fun bt => (N1limbs_trim.f k [bt.2]).bind fun t => some (bt.1, t)) (fun k => ?_) (Ev.bind hds (Ev.bind (h := fun _ t => some (lm (a / b), t)) ht (Ev.of fun _ => rfl)))
    rw [if_neg e, hx, if_pos (show (([(b : Int)] : List Int).length : Int) = 1 from rfl), if_pos (show (0 : Int) < (([(b : Int)] : List Int).length : Int) from Int.zero_lt_one)]
    rfl
  obtain ⟨n, hn⟩ : ∃ n, (lm b).length = n + 2 := by
    have : (lm b).length ≠ 0 := fun h => by
      have := lm_nil.1 (List.length_eq_zero_iff.1 h)
      omega
    exact ⟨(lm b).length - 2, by omega⟩
  have hbn : lm b ≠ [] := fun h => by rw [h] at hn; cases hn
  have hlen : (lm b).length ≤ (lm a).length := lcan_len cb ca.1 (by rw [va, vb]; omega)
  obtain ⟨q, hq⟩ : ∃ q, (lm a).length + 1 = q + (n + 2) := ⟨(lm a).length + 1 - (n + 2), by omega⟩
  have k3 : (lm a).length ≤ 4611686018427387904 := by omega
  have k4 : n + 2 ≤ (lm a).length := by omega
  have k5 : (lm a).length - (n + 2) ≤ 4611686018427387904 := by omega
  have k6 : (lm a).length - (n + 2) + 1 = q := by omega
  have k7 : -9223372036854775808 ≤ (q : Int) - 1 := by omega
  have k8 : (q : Int) - 1 ≤ 9223372036854775807 := by omega
  have k9 : q ≤ 70368744177664 := by omega
  have k10 : (lm b).length ≤ 549755813888 := by omega
  have k11 : (lm a).length ≤ 549755813888 := by omega
  have k12 : n ≤ 274877906944 := by omega
  have k13 : q ≤ 549755813888 := by omega
  have k14 : (lm b).length ≤ (lm b).length + 1 := by omega
  have k15 : (lm a).length ≤ (lm a).length + 1 := by omega
  have k16 : n + 1 ≤ (lm b).length := by omega
  have k17 : n + 1 + q = (lm a).length := by omega
  have k18 : n + 1 < (lm b).length := by omega
  have k19 : (lm b).length - 1 = n + 1 := by omega
  have k20 : n + 1 ≤ n + 2 := by omega
  have j1 : n + 1 < n + 2 := by omega
  have e5 : ¬ ((n + 2 : Nat) : Int) = 1 := by omega
  have k2 : n + 1 + 1 ≤ 4611686018427387904 := by omega
  have htop := lv_all (lm b) (n + 1) hn
  have hr0 := lv_nonneg (lok_take cb.1 (n + 1))
  have hr1 := lv_lt (lok_take cb.1 (n + 1))
  rw [List.length_take, Nat.min_eq_left k16] at hr1
  have hto := rd_ok cb.1 ((n + 1 : Nat) : Int)
  have htp : 0 < rd (lm b) ((n + 1 : Nat) : Int) := by
    have h := cb.2 hbn
    have e : rd (lm b) ((n + 1 : Nat) : Int) = (lm b).getLast hbn := by
      rw [rd_nat, List.getLast_eq_getElem]
      simp [List.getD, k18, k19]
    rw [← e] at h
    omega
  obtain ⟨s, hs, hlz, hs1, hs2⟩ := lz_spec htp hto.2
  have hP := pow2_pos s
  have hP1 := pow2_le31 hs
  have k1 : (s : Int) < 18446744073709551616 := by clear hs1 hs2 hP hP1 hr0 hr1 htop hto htp hcmp; omega
  have hPn := BP_pos (n + 1)
  -- the divisor fits
  have hfit : lv (lm b) * 2 ^ s < BP (n + 2) := by
    obtain ⟨c, hc⟩ := pow2_dvd hs
    have h2 : rd (lm b) ((n + 1 : Nat) : Int) + 1 ≤ c := by
      have h3 : (2 : Int) ^ s * rd (lm b) ((n + 1 : Nat) : Int) < 2 ^ s * c := by rw [← hc, Int.mul_comm]; exact hs2
      have := BP_inj_lt hP h3
      omega
    have h3 : lv (lm b) < BP (n + 1) * c := by
      have h4 : BP (n + 1) * (rd (lm b) ((n + 1 : Nat) : Int) + 1) ≤ BP (n + 1) * c := Int.mul_le_mul_of_nonneg_left h2 (by omega)
      rw [Int.mul_add, Int.mul_one] at h4
      omega
    have h4 : lv (lm b) * 2 ^ s < BP (n + 1) * c * 2 ^ s := Int.mul_lt_mul_of_pos_right h3 hP
    rw [BP_succ (n + 1), hc]
    revert h4
    generalize lv (lm b) = x1
    generalize (2 : Int) ^ s = x2
    intro h4
    grind
  obtain ⟨d, hd1, hd2, hd3, hd4⟩ := shift_ev cb.1 k10 hs (Nat.le_refl _) k14 (by rw [hn]; exact hfit)
  have hfa : lv (lm a) * 2 ^ s < BP ((lm a).length + 1) := by
    have h2 := lv_lt ca.1
    have h3 := lv_nonneg ca.1
    have h4 : lv (lm a) * 2 ^ s ≤ lv (lm a) * 2147483648 := Int.mul_le_mul_of_nonneg_left hP1 h3
    rw [BP_succ]
    omega
  obtain ⟨u, hu1, hu2, hu3, hu4⟩ := shift_ev ca.1 k11 hs k15 (Nat.le_refl _) hfa
  rw [hn] at hd3
  -- the divisor's top limb
  have hdtop : 2147483648 ≤ rd d ((n + 1 : Nat) : Int) := by
    have h2 := lv_all d (n + 1) hd3
    have h3 := lv_lt (lok_take hd2 (n + 1))
    rw [List.length_take, hd3, Nat.min_eq_left k20] at h3
    have h4 : BP (n + 1) * 2147483648 ≤ lv d := by
      have h5 : BP (n + 1) * rd (lm b) ((n + 1 : Nat) : Int) * 2 ^ s ≤ lv (lm b) * 2 ^ s := Int.mul_le_mul_of_nonneg_right (by omega) (by omega)
      have h6 : BP (n + 1) * 2147483648 ≤ BP (n + 1) * (rd (lm b) ((n + 1 : Nat) : Int) * 2 ^ s) := Int.mul_le_mul_of_nonneg_left hs1 (by omega)
      rw [Int.mul_assoc] at h5
      omega
    have h5 : BP (n + 1) * 2147483647 < BP (n + 1) * rd d ((n + 1 : Nat) : Int) := by omega
    have := BP_inj_lt hPn h5
    omega
  have hdpos : 0 < lv d := by
    have h2 := lv_ge hd2 (n + 1)
    have h3 := Int.mul_pos hPn (show 0 < rd d ((n + 1 : Nat) : Int) by omega)
    omega
  have hU0 : lv u < lv d * BP q := by
    have h2 := lv_lt ca.1
    have h3 := lv_nonneg ca.1
    have h4 : lv (lm a) * 2 ^ s ≤ lv (lm a) * 2147483648 := Int.mul_le_mul_of_nonneg_left hP1 h3
    have h5 := lv_ge hd2 (n + 1)
    have h6 : BP (n + 1) * 2147483648 ≤ BP (n + 1) * rd d ((n + 1 : Nat) : Int) := Int.mul_le_mul_of_nonneg_left hdtop (by omega)
    have h7 : BP (n + 1) * 2147483648 * BP q ≤ lv d * BP q := Int.mul_le_mul_of_nonneg_right (Int.le_trans h6 h5) (Int.le_of_lt (BP_pos q))
    have h8 : BP (lm a).length = BP (n + 1) * BP q := by rw [← BP_add, k17]
    rw [hu4]
    rw [h8] at h2
    exact rg7 h2 h4 h7
  have h := divide_l0 s hs d hd2 n hd3 k12 hdtop (lv u) q k13 q u (List.replicate q 0) (Nat.le_refl _) hu2 (by rw [hu3, hq]) (lok_replicate _) List.length_replicate hU0
    (by rw [List.drop_of_length_le (by rw [List.length_replicate]; exact Nat.le_refl _)]; show lv u = _ * 0 + lv u; rw [Int.mul_zero, Int.zero_add])
  have e1 : (lv u / lv d).toNat = a / b := by
    rw [hu4, hd4, Int.mul_ediv_mul_of_pos_left _ _ hP, va, vb, ← Int.natCast_ediv]; exact Int.toNat_natCast _
  have e2 : (lv u % lv d / 2 ^ s).toNat = a % b := by
    rw [hu4, hd4, Int.mul_comm, Int.mul_comm (lv (lm b)), Int.mul_emod_mul_of_pos _ _ hP, Int.mul_ediv_cancel_left _ (by omega), va, vb, ← Int.natCast_emod]; exact Int.toNat_natCast _
  rw [e1, e2] at h
  have w0 : IntKind.u64.wrap (s : Int) = (s : Int) := wu64 _ (ix_nn _) k1
  have i1 : wrap64 (((n + 2 : Nat) : Int) - 1) = ((n + 1 : Nat) : Int) := ix_pred k2
  have i2 : wrap64 (((lm a).length : Int) + 1) = (((lm a).length + 1 : Nat) : Int) := ix_succ k3
  have i3 : wrap64 (((lm a).length : Int) - ((n + 2 : Nat) : Int)) = (((lm a).length - (n + 2) : Nat) : Int) := ix_sub k4 k3
  have i4 : wrap64 ((((lm a).length - (n + 2) : Nat) : Int) + 1) = (q : Int) := by rw [ix_succ k5, k6]
  have i5 : wrap64 ((q : Int) - 1) = (q : Int) - 1 := w64 k7 k8
  rw [hn] at hd1
  unfold N1divide.f
  refine Ev.bind hcmp ?_
  refine Ev.congr (h := fun k => (N1shift.f k (lm b) (s : Int) ((n + 2 : Nat) : Int)).bind fun d => (N1shift.f k (lm a) (s : Int) (((lm a).length + 1 : Nat) : Int)).bind fun u => N1divide.l0 k (s : Int) ((n + 2 : Nat) : Int) d u (List.replicate q 0) ((q : Int) - 1)) (fun k => ?_) (Ev.bind hd1 (Ev.bind (h := fun k u => N1divide.l0 k (s : Int) ((n + 2 : Nat) : Int) d u (List.replicate q 0) ((q : Int) - 1)) hu1 h))
  rw [if_neg e, hn, if_neg e5, i1, if_pos (ix_nn _), if_pos (ix_lt j1), hlz, Option.bind_some, w0, i2, i3, i4]
  refine congrArg _ (funext fun t => congrArg _ (funext fun t2 => ?_))
  rw [if_pos (ix_nn _), Int.toNat_natCast, if_pos k9, Option.bind_some, List.length_replicate, i5]
theorem lm_len_le {a b : Nat} (h : a ≤ b) : (lm a).length ≤ (lm b).length := lcan_len (lm_can a) (lm_can b).1 (by rw [lm_lv, lm_lv]; omega)
theorem GCD_l0 (n : Nat) : ∀ (a b : Nat), b < n → (lm a).length ≤ 274877906944 → (lm b).length ≤ 274877906944 → Ev (fun k => N1GCD.l0 k (lm a) (lm b)) (enc (Nat.gcd a b)) := by
  induction n with
  | zero => intro a b hb; omega
  | succ n ih =>
    intro a b hbn la lb
    by_cases hb : b = 0
    · subst hb
      have e0 : lm 0 = [] := lm_nil.2 rfl
      rw [Nat.gcd_zero_right, e0]
      refine Ev.succ (h := fun k => (N1limbs_text.f k (lm a)).bind fun t => some t) (fun k => ?_) (Ev.bind (lm_text_ev (by omega)) (Ev.of fun _ => rfl))
      simp only [N1GCD.l0]
      rw [if_neg (by decide)]
    · have hm : a % b < b := Nat.mod_lt _ (by omega)
      have h := ih b (a % b) (by omega) lb (Nat.le_trans (lm_len_le (by omega)) lb)
      have e : Nat.gcd a b = Nat.gcd b (a % b) := by rw [Nat.gcd_comm, Nat.gcd_rec, Nat.gcd_comm]
      rw [e]
      refine Ev.succ (h := fun k => (N1divide.f k (lm a) (lm b)).bind fun bt => N1GCD.l0 k (lm b) bt.2) (fun k => ?_) (Ev.bind (divide_ev a b (by omega) la lb) h)
      simp only [N1GCD.l0]
      have hl : ((lm b).length : Int) > 0 := by
        have : (lm b).length ≠ 0 := fun h => by
          have := lm_nil.1 (List.length_eq_zero_iff.1 h)
          omega
        omega
      rw [if_pos hl]
theorem GCD_ev (a b : ByteArray) (ha : a.size ≤ 1099511627776) (hb : b.size ≤ 1099511627776) : Ev (fun k => N1GCD.f k a b) (enc (Nat.gcd (sv a) (sv b))) := by
  unfold N1GCD.f
  exact Ev.bind (parse_ev a ha) (Ev.bind (parse_ev b hb) (GCD_l0 _ _ _ (Nat.lt_succ_self _) (lm_sv_len a ha) (lm_sv_len b hb)))
theorem Divide_ev (a b : ByteArray) (ha : a.size ≤ 1099511627776) (hb : b.size ≤ 1099511627776) :
    Ev (fun k => N1Divide.f k a b) (if sv b = 0 then ((⟨#[]⟩ : ByteArray), (⟨#[]⟩ : ByteArray), false) else (enc (sv a / sv b), enc (sv a % sv b), true)) := by
  have la := lm_sv_len a ha
  have lb := lm_sv_len b hb
  unfold N1Divide.f
  refine Ev.bind (parse_ev b hb) ?_
  by_cases h : sv b = 0
  · rw [if_pos h, h, lm_nil.2 rfl]
    exact Ev.of fun k => rfl
  · rw [if_neg h]
    have hl : ¬ ((lm (sv b)).length : Int) = 0 := fun e => h (lm_nil.1 (List.length_eq_zero_iff.1 (by omega)))
    have hq : (lm (sv a / sv b)).length ≤ 1099511627776 := Nat.le_trans (Nat.le_trans (lm_len_le (Nat.div_le_self _ _)) la) (by decide)
    have hm : (lm (sv a % sv b)).length ≤ 1099511627776 := Nat.le_trans (Nat.le_trans (lm_len_le (Nat.mod_le _ _)) la) (by decide)
    refine Ev.congr (h := fun k => (N1parse.f k a).bind fun t233 => ((N1divide.f k t233 (lm (sv b))).bind fun bt236 => ((N1limbs_text.f k bt236.1).bind fun t242 => ((N1limbs_text.f k bt236.2).bind fun t243 => (some (t242, t243, true)))))) (fun k => by rw [if_neg hl]) ?_
    exact Ev.bind (parse_ev a ha) (Ev.bind (divide_ev (sv a) (sv b) (by omega) la lb) (Ev.bind (lm_text_ev hq) (Ev.bind (lm_text_ev hm) (Ev.of fun _ => rfl))))
end Go.Proofs.YtggfilmdfpmbmaaGreatDoor.V
end
