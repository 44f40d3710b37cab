/-
  Steps and laws behind the statement that the claim's last text proves: the words of the walks, the walks of the Go functions (printed by a program of this session's own, then shortened by one), and what they compute. Conditions: stated at each theorem.
-/
import Derived.Test.YtggfilmdfpmbmaaGreatDoorP6
import Derived.Test.YtggfilmdfpmbmaaGreatDoorP1
import Derived.Test.YtggfilmdfpmbmaaGreatDoorP9
section
namespace Go.Proofs.YtggfilmdfpmbmaaGreatDoor.V
open Go.RowKit Go.Proofs.YtggfilmdfpmbmaaGreatDoorW.PrintWords Go.Proofs.YtggfilmdfpmbmaaGreatDoor.QN
set_option linter.unusedVariables false
theorem enc_of (s : ByteArray) (h : bcan s.data.toList) : enc (sv s) = s := by
  apply ba_ext
  have : s.data.toList = encL (bv s.data.toList) := bcan_enc _ h
  unfold enc sv
  rw [← this]
theorem rNorm_l0 (s : ByteArray) (d : Nat) : ∀ i, i + d = s.size → i ≤ 4611686018427387904 → s.size ≤ 4611686018427387904 → Ev (fun k => R1Normalize.l0 k s (i : Int)) (enc (bv (s.data.toList.drop i))) := by
  have hlen : s.data.toList.length = s.size := by rw [Array.length_toList]; rfl
  have hext (i : Nat) (h : bcan (s.data.toList.drop i)) : enc (bv (s.data.toList.drop i)) = s.extract i s.size := by
    have e : (s.extract i s.size).data.toList = s.data.toList.drop i := Lib.extract_to_end _ _
    rw [← e]
    exact enc_of _ (by rw [e]; exact h)
  induction d with
  | zero =>
    intro i hi _ _
    have hi' : i = s.size := by omega
    subst hi'
    have hd : s.data.toList.drop s.size = [] := List.drop_of_length_le (by omega)
    have e := hext s.size (by rw [hd]; intro h; cases h)
    rw [e]
    refine Ev.succ (h := fun k => some (s.extract s.size s.size)) (fun k => ?_) (Ev.of fun _ => rfl)
    simp only [R1Normalize.l0]
    rw [if_neg (ix_nlt (Nat.le_refl _)), if_pos (ix_nn _), if_pos (ix_le (Nat.le_refl _)), Int.toNat_natCast]
  | succ d ih =>
    intro i hi h1 h2
    have c1 : i < s.size := by omega
    have c2 : i ≤ s.size := by omega
    have hj : i < s.data.toList.length := by omega
    have ebt := bt_list s i c1
    by_cases hz : bt s (i : Int) = 0
    · have h3 := ih (i + 1) (by omega) (by omega) h2
      have e : bv (s.data.toList.drop i) = bv (s.data.toList.drop (i + 1)) := by
        rw [bv_drop _ _ hj]
        rw [ebt] at hz
        have : (s.data.toList[i]).toNat = 0 := by omega
        rw [this, Nat.zero_mul, Nat.zero_add]
      rw [e]
      refine Ev.succ (fun k => ?_) h3
      simp only [R1Normalize.l0]
      rw [if_pos (ix_lt c1), if_pos (ix_nn _), if_pos hz, ix_succ h1]
    · have e := hext i (by
        rw [List.drop_eq_getElem_cons hj]
        intro h
        apply hz
        rw [ebt]
        have := Option.some.inj h
        rw [this]
        rfl)
      rw [e]
      refine Ev.succ (h := fun k => some (s.extract i s.size)) (fun k => ?_) (Ev.of fun _ => rfl)
      simp only [R1Normalize.l0]
      rw [if_pos (ix_lt c1), if_pos (ix_nn _), if_neg hz, if_pos (ix_le c2), Int.toNat_natCast]
theorem rNormalize_ev (s : ByteArray) (hs : s.size ≤ 4611686018427387904) : Ev (fun k => R1Normalize.f k s) (enc (sv s)) :=
  rNorm_l0 s s.size 0 (by omega) (by omega) hs
theorem strip_l0 (l : List Int) (hl : lok l) (hlen : l.length ≤ 70368744177664) (d : Nat) : ∀ k, d < k → d ≤ l.length → lv (l.drop d) = 0 →
    ∃ r, R1strip.l0 k l (d : Int) = some r ∧ lcan r ∧ lv r = lv l := by
  induction d with
  | zero =>
    intro k hk _ hz
    obtain ⟨k, rfl⟩ : ∃ m, k = m + 1 := ⟨k - 1, by omega⟩
    refine ⟨[], ?_, lcan_nil, ?_⟩
    · simp only [R1strip.l0]
      rw [if_neg (by omega), if_pos (by omega), if_pos (by omega)]
      simp
    · rw [List.drop_zero] at hz
      rw [hz]; rfl
  | succ d ih =>
    intro k hk hd hz
    obtain ⟨k, rfl⟩ : ∃ m, k = m + 1 := ⟨k - 1, by omega⟩
    have c1 : d + 1 ≤ 4611686018427387904 := by omega
    have hdl : d < l.length := by omega
    have hp : ((d + 1 : Nat) : Int) > 0 := by omega
    have hsplit : lv (l.drop d) = rd l (d : Int) + 4294967296 * lv (l.drop (d + 1)) := lv_drop_rd d hdl
    by_cases h0 : rd l (d : Int) = 0
    · obtain ⟨r, hr, hc, hv⟩ := ih k (by omega) (by omega) (by rw [hsplit, h0, hz]; rfl)
      refine ⟨r, ?_, hc, hv⟩
      simp only [R1strip.l0]
      rw [ix_pred c1, if_pos hp, if_pos (ix_nn _), if_pos (ix_lt hdl), if_pos h0]
      exact hr
    · refine ⟨l.take (d + 1), ?_, ⟨lok_take hl _, fun hn => ?_⟩, ?_⟩
      · simp only [R1strip.l0]
        rw [ix_pred c1, if_pos hp, if_pos (ix_nn _), if_pos (ix_lt hdl), if_neg h0, if_pos (ix_nn _), if_pos (ix_le hd)]
        rfl
      · intro h
        apply h0
        rw [rd_nat, List.getD_eq_getElem?_getD, List.getElem?_eq_getElem hdl]
        have : (l.take (d + 1)).getLast hn = l[d] := by
          rw [List.getLast_eq_getElem]
          simp only [List.length_take, Nat.min_eq_left (show d + 1 ≤ l.length by omega), Nat.add_sub_cancel, List.getElem_take]
        rw [this] at h
        simpa using h
      · have := lv_split l (d + 1) hd
        rw [hz, Int.mul_zero, Int.add_zero] at this
        exact this.symm
theorem strip_ev {l : List Int} (hl : lok l) (hlen : l.length ≤ 70368744177664) : Ev (fun k => R1strip.f k l) (lm (lv l).toNat) := by
  refine ⟨l.length + 1, fun k hk => ?_⟩
  obtain ⟨r, hr, hc, hv⟩ := strip_l0 l hl hlen l.length k (by omega) (Nat.le_refl _) (by rw [List.drop_length]; rfl)
  show R1strip.l0 k l (l.length : Int) = _
  rw [hr, lcan_lm hc, hv]
theorem lcan_of_ge {l : List Int} (hl : lok l) {q : Nat} (hq : l.length = q + 1) (h : BP q ≤ lv l) : lcan l := by
  refine ⟨hl, fun hn h0 => ?_⟩
  have h1 := lv_all l q hq
  have h2 := lv_lt (lok_take hl q)
  rw [List.length_take, Nat.min_eq_left (by omega)] at h2
  have e : rd l (q : Int) = l.getLast hn := by
    rw [rd_nat, List.getLast_eq_getElem]
    simp [List.getD, hq]
  rw [e, h0, Int.mul_zero] at h1
  omega
theorem bcan_ge {l : List UInt8} (h : bcan l) (hn : l ≠ []) : 256 ^ (l.length - 1) ≤ bv l := by
  cases l with
  | nil => exact absurd rfl hn
  | cons b bs =>
    have hb : b.toNat ≠ 0 := fun e => h (by
      have : b = 0 := UInt8.toNat_inj.1 (by simpa using e)
      rw [this]; rfl)
    rw [bv, List.length_cons, Nat.add_sub_cancel]
    have := Nat.mul_le_mul_right (256 ^ bs.length) (show 1 ≤ b.toNat by omega)
    omega
theorem rlimbs_l0 (s : ByteArray) (hs : s.size ≤ 1099511627776) (d : Nat) : ∀ (i : Nat) (x : List Int), i + d = s.size → lok x → x.length = (s.size + 3) / 4 → lv x = (bv (s.data.toList.drop (s.size - i)) : Nat) →
    ∃ z, Ev (fun k => R1limbs.l0 k s x (i : Int)) z ∧ lok z ∧ z.length = (s.size + 3) / 4 ∧ lv z = (sv s : Nat) := by
  induction d with
  | zero =>
    intro i x hi hx hl hv
    have hsz : s.size - i = 0 := by omega
    rw [hsz, List.drop_zero] at hv
    have hi' : i = s.size := by omega
    refine ⟨x, Ev.succ (h := fun k => some x) (fun k => ?_) (Ev.of fun _ => rfl), hx, hl, hv⟩
    simp only [R1limbs.l0]
    rw [hi', if_neg (ix_nlt (Nat.le_refl _))]
  | succ d ih =>
    intro i x hi hx hl hv
    have hlen : s.data.toList.length = s.size := by rw [Array.length_toList]; rfl
    have hj : s.size - (i + 1) < s.data.toList.length := by omega
    have q1 : s.data.toList.length - (s.size - (i + 1)) - 1 = i := by omega
    have q2 : s.size - (i + 1) + 1 = s.size - i := by omega
    have q3 : s.data.toList.length - (s.size - i) = i := by omega
    have c1 : i ≤ 4611686018427387904 := by omega
    have c2 : i < s.size := by omega
    have c3 : s.size ≤ 4611686018427387904 := by omega
    have hil : i / 4 < x.length := by omega
    have b3 : ((s.size - (i + 1) : Nat) : Int) < s.size := by omega
    have b4 : ((8 * (i % 4) : Nat) : Int) ≤ 32 := by omega
    have b5 : i + 1 + d = s.size := by omega
    have b6 : s.size - (i + 1) < s.size := by omega
    have b7 : ((8 * (i % 4) : Nat) : Int) < 18446744073709551616 := by omega
    have e3 := ix_tmod i
    have w1 : IntKind.u64.wrap ((8 * (i % 4) : Nat) : Int) = ((8 * (i % 4) : Nat) : Int) := wu64 _ (ix_nn _) b7
    have ebt : bt s ((s.size - (i + 1) : Nat) : Int) = (((s.data.toList[s.size - (i + 1)]'hj).toNat : Nat) : Int) := bt_list s _ b6
    have hb : (s.data.toList[s.size - (i + 1)]'hj).toNat < 256 := (s.data.toList[s.size - (i + 1)]'hj).toNat_lt
    have hvi := bv_drop s.data.toList (s.size - (i + 1)) hj
    rw [q1, q2] at hvi
    have hV := bv_lt (s.data.toList.drop (s.size - i))
    rw [List.length_drop, q3] at hV
    obtain ⟨s1, s2, s3⟩ := byte_step x i _ _ hx hb hil hV hv
    rw [← hvi] at s2
    obtain ⟨z, hz, hz2⟩ := ih (i + 1) _ b5 s1 (by rw [List.length_set]; exact hl) s2
    refine ⟨z, Ev.succ (fun k => ?_) hz, hz2⟩
    simp only [R1limbs.l0]
    rw [ix_tdiv c1, ix_rev c2 c3, e3, w1, ix_succ c1, ebt, if_pos (ix_lt c2), if_pos (ix_nn _), if_pos (ix_lt hil), if_pos (ix_nn _), if_pos b3, if_pos (ix_nn _), if_pos b4, Int.toNat_natCast, Int.toNat_natCast, s3]
theorem rlimbs_ev (s : ByteArray) (hs : s.size ≤ 1099511627776) : Ev (fun k => R1limbs.f k s) (lm (sv s)) := by
  have hsz : (enc (sv s)).size ≤ s.size := enc_size _ _ (sv_lt s)
  generalize ht : enc (sv s) = t at hsz
  have hvt : sv t = sv s := by rw [← ht]; exact sv_enc _
  have hN := rNormalize_ev s (by omega)
  rw [ht] at hN
  have hts : t.size ≤ 1099511627776 := by omega
  have e : wrap64 (Int.tdiv (wrap64 ((t.size : Int) + 3)) 4) = (((t.size + 3) / 4 : Nat) : Int) := by
    clear ht hvt hN
    rw [w64 (x := (t.size : Int) + 3) (by omega) (by omega), Int.tdiv_eq_ediv_of_nonneg (by omega), w64 (by omega) (by omega)]
    omega
  obtain ⟨z, hz, hz1, hz2, hz3⟩ := rlimbs_l0 t hts t.size 0 (List.replicate ((t.size + 3) / 4) 0) (by omega) (lok_replicate _) (by simp) (by
    rw [lv_replicate, Nat.sub_zero, List.drop_of_length_le (by rw [Array.length_toList]; exact Nat.le_refl _)]
    rfl)
  have hlen : t.data.toList.length = t.size := by rw [Array.length_toList]; rfl
  have hcan : bcan t.data.toList := by rw [← ht]; exact encL_can _
  have hzc : z = lm (sv s) := by
    have hc : lcan z := by
      by_cases h0 : t.size = 0
      · have : z = [] := List.length_eq_zero_iff.1 (by rw [hz2, h0])
        rw [this]; exact lcan_nil
      · obtain ⟨q, hq⟩ : ∃ q, (t.size + 3) / 4 = q + 1 := ⟨(t.size + 3) / 4 - 1, by omega⟩
        refine lcan_of_ge hz1 (hz2.trans hq) ?_
        have h1 := bcan_ge hcan (fun h => by rw [h] at hlen; exact h0 hlen.symm)
        rw [hlen] at h1
        have h2 : 256 ^ (4 * q) ≤ 256 ^ (t.size - 1) := Nat.pow_le_pow_right (by decide) (by omega)
        have h3 : ((256 ^ (4 * q) : Nat) : Int) = BP q := by
          rw [BP_bytes, show 4 * q / 4 = q by omega, show 4 * q % 4 = 0 by omega]
          simp
        rw [← h3, hz3]
        have h4 : sv t = bv t.data.toList := rfl
        rw [h4]
        exact Int.ofNat_le.2 (Nat.le_trans h2 h1)
    rw [lcan_lm hc, hz3, Int.toNat_natCast, hvt]
  rw [hzc] at hz
  unfold R1limbs.f
  refine Ev.bind hN (Ev.congr (fun k => ?_) hz)
  have c1 : (t.size + 3) / 4 ≤ 70368744177664 := by clear e hN; omega
  rw [e, if_pos (ix_nn _), Int.toNat_natCast, if_pos c1]
  rfl
theorem dv_append (a b : List Int) : dv (a ++ b) = dv a * 256 ^ b.length + dv b := by
  induction a with
  | nil => simp [dv]
  | cons x xs ih =>
    rw [List.cons_append, dv, dv, ih, List.length_append, Int.pow_add]
    grind
theorem limb_bytes {x : Int} (h0 : 0 ≤ x) (h1 : x < 4294967296) : dv [x / 16777216 % 256, x / 65536 % 256, x / 256 % 256, x % 256] = x := by
  simp only [dv, List.length_cons, List.length_nil]
  omega
theorem rtext_l0 (l : List Int) (hl : lok l) (hlen : l.length ≤ 1099511627776) (j : Nat) : ∀ (y : List Int), j ≤ l.length → y.length = 4 * (l.length - j) → (∀ x ∈ y, 0 ≤ x ∧ x < 256) →
    dv y = lv (l.drop j) → Ev (fun k => R1text.l0 k l y ((j : Int) - 1)) (enc (lv l).toNat) := by
  induction j with
  | zero =>
    intro y _ hy hb hv
    rw [List.drop_zero] at hv
    have e2 := dv_bv y hb
    have e3 : sv (strOfNums y) = (lv l).toNat := by
      unfold sv
      omega
    have hsz : (strOfNums y).size = y.length := by
      show ((y.map _).toArray).size = y.length
      simp
    have h := rNormalize_ev (strOfNums y) (by omega)
    rw [e3] at h
    refine Ev.succ (h := fun k => (R1Normalize.f k (strOfNums y)).bind fun t => some t) (fun k => ?_) (Ev.bind h (Ev.of fun _ => rfl))
    simp only [R1text.l0]
    rw [if_neg (by decide)]
  | succ j ih =>
    intro y hj hy hb hv
    have c1 : j < l.length := by omega
    have c2 : ∀ a b c e : Int, y.length + [a, b, c, e].length < 140737488355328 := fun a b c e => by simp only [List.length_cons, List.length_nil]; omega
    have i1 : ((j + 1 : Nat) : Int) - 1 = (j : Int) := by omega
    have c3 : -9223372036854775808 ≤ (j : Int) - 1 := by omega
    have c4 : (j : Int) - 1 ≤ 9223372036854775807 := by omega
    have hr := rd_ok hl (j : Int)
    have h2 := ih (y ++ [rd l (j : Int) / 16777216 % 256, rd l (j : Int) / 65536 % 256, rd l (j : Int) / 256 % 256, rd l (j : Int) % 256]) (by omega)
      (by rw [List.length_append, hy]; simp only [List.length_cons, List.length_nil]; omega)
      (fun x hx => by
        rcases List.mem_append.1 hx with hx | hx
        · exact hb x hx
        · simp only [List.mem_cons, List.not_mem_nil, or_false] at hx
          rcases hx with rfl | rfl | rfl | rfl <;> omega)
      (by
        rw [dv_append, limb_bytes hr.1 hr.2, hv, lv_drop_rd j c1]
        simp only [List.length_cons, List.length_nil]
        omega)
    refine Ev.succ (fun k => ?_) h2
    simp only [R1text.l0]
    rw [i1, w64 c3 c4, if_pos (ix_nn _), if_pos (ix_nn _), if_pos (ix_lt c1), Option.bind_some, if_pos (c2 _ _ _ _)]
theorem rtext_ev {l : List Int} (hl : lok l) (hlen : l.length ≤ 1099511627776) : Ev (fun k => R1text.f k l) (enc (lv l).toNat) := by
  have hs := strip_ev hl (by omega)
  have h0 := lv_nonneg hl
  have hc := lm_can (lv l).toNat
  have hv := lm_lv (lv l).toNat
  have hle : (lm (lv l).toNat).length ≤ l.length := lcan_len hc hl (by omega)
  have h := rtext_l0 (lm (lv l).toNat) hc.1 (by omega) (lm (lv l).toNat).length [] (Nat.le_refl _) (by simp) (fun x hx => by cases hx) (by rw [List.drop_length]; rfl)
  rw [hv, Int.toNat_natCast] at h
  unfold R1text.f
  refine Ev.bind hs (Ev.congr (fun k => ?_) h)
  generalize (lm (lv l).toNat).length = n at hle ⊢
  have c1 : 4 * n ≤ 281474976710656 := by omega
  have c2 : wrap64 (4 * (n : Int)) = ((4 * n : Nat) : Int) := by clear hs h hv; rw [w64 (by omega) (by omega)]; omega
  have c3 : wrap64 ((n : Int) - 1) = (n : Int) - 1 := by clear hs h hv c2; exact w64 (by omega) (by omega)
  rw [c2, c3, if_pos (ix_nn _), Int.toNat_natCast, if_pos c1]
theorem order_l0 (x y : List Int) (hx : lok x) (hy : lok y) (n : Nat) (hn : n ≤ 1099511627776) (lx : x.length = n) (ly : y.length = n) (d : Nat) : ∀ k, d < k → d ≤ n → lv (x.drop d) = lv (y.drop d) →
    R1order.l0 k x y ((d : Int) - 1) = some (cmpI (lv x) (lv y)) := by
  induction d with
  | zero =>
    intro k hk _ h
    obtain ⟨k, rfl⟩ : ∃ m, k = m + 1 := ⟨k - 1, by omega⟩
    rw [List.drop_zero, List.drop_zero] at h
    simp only [R1order.l0]
    rw [if_neg (by decide), h]
    unfold cmpI
    rw [if_neg (by omega), if_neg (by omega)]
  | succ d ih =>
    intro k hk hd h
    obtain ⟨k, rfl⟩ : ∃ m, k = m + 1 := ⟨k - 1, by omega⟩
    have e : ((d + 1 : Nat) : Int) - 1 = (d : Int) := by omega
    have e1 : wrap64 ((d : Int) - 1) = (d : Int) - 1 := w64 (by omega) (by omega)
    have hxd := lv_drop_rd (l := x) d (by omega)
    have hyd := lv_drop_rd (l := y) d (by omega)
    rw [h] at hxd
    simp only [R1order.l0]
    rw [e, e1, if_pos (ix_nn _), if_pos (ix_nn _), if_pos (ix_lt (by omega)), if_pos (ix_lt (by omega))]
    by_cases heq : rd x (d : Int) = rd y (d : Int)
    · rw [if_pos heq]
      exact ih k (by omega) (by omega) (by omega)
    · rw [if_neg heq]
      have sx := lv_split x d (by omega)
      have sy := lv_split y d (by omega)
      have tx0 := lv_nonneg (lok_take hx d)
      have ty0 := lv_nonneg (lok_take hy d)
      have tx1 := lv_lt (lok_take hx d)
      have ty1 := lv_lt (lok_take hy d)
      rw [List.length_take, Nat.min_eq_left (by omega)] at tx1 ty1
      have hP := BP_pos d
      by_cases hlt : rd x (d : Int) < rd y (d : Int)
      · rw [if_pos hlt]
        have h3 : BP d * (lv (x.drop d) + 1) ≤ BP d * lv (y.drop d) := Int.mul_le_mul_of_nonneg_left (by omega) (by omega)
        rw [Int.mul_add, Int.mul_one] at h3
        unfold cmpI
        rw [if_pos (by omega)]
      · rw [if_neg hlt]
        have h3 : BP d * (lv (y.drop d) + 1) ≤ BP d * lv (x.drop d) := Int.mul_le_mul_of_nonneg_left (by omega) (by omega)
        rw [Int.mul_add, Int.mul_one] at h3
        unfold cmpI
        rw [if_neg (by omega), if_pos (by omega)]
theorem order_ev {x y : List Int} (hx : lcan x) (hy : lcan y) (lx : x.length ≤ 1099511627776) (ly : y.length ≤ 1099511627776) :
    Ev (fun k => R1order.f k x y) (cmpI (lv x) (lv y)) := by
  by_cases h : x.length = y.length
  · refine ⟨x.length + 1, fun k hk => ?_⟩
    show R1order.f k x y = _
    unfold R1order.f
    have e : wrap64 ((x.length : Int) - 1) = (x.length : Int) - 1 := w64 (by omega) (by omega)
    rw [if_pos (by omega), e]
    exact order_l0 x y hx.1 hy.1 x.length lx rfl h.symm x.length k (by omega) (Nat.le_refl _) (by rw [List.drop_length, h, List.drop_length])
  · refine Ev.of fun k => ?_
    unfold R1order.f
    rw [if_neg (by omega)]
    have h1 := fun g => lcan_len hx hy.1 g
    have h2 := fun g => lcan_len hy hx.1 g
    unfold cmpI
    by_cases hlt : x.length < y.length
    · have h3 : lv x < lv y := by
        refine Int.not_le.1 fun g => ?_
        have := h2 g
        omega
      rw [if_pos (by omega), if_pos h3]
    · have h3 : lv y < lv x := by
        refine Int.not_le.1 fun g => ?_
        have := h1 g
        omega
      rw [if_neg (by omega), if_neg (by omega), if_pos h3]
theorem short_l0 (a : List Int) (ha : lok a) (la : a.length ≤ 1099511627776) (d : Int) (hd : 0 < d) (hd1 : d < 4294967296) (j : Nat) : ∀ (o : List Int) (r : Int), j ≤ a.length → lok o → o.length = a.length → 0 ≤ r ∧ r < d →
    lv (a.drop j) = d * lv (o.drop j) + r → Ev (fun k => R1short.l0 k a d o r ((j : Int) - 1)) (lm (lv a / d).toNat, lv a % d) := by
  induction j with
  | zero =>
    intro o r _ ho lo hr hv
    rw [List.drop_zero, List.drop_zero] at hv
    have lo2 : o.length ≤ 70368744177664 := by omega
    have ht := strip_ev ho lo2
    have e1 : lv a / d = lv o := by
      rw [hv, Int.add_comm, Int.add_mul_ediv_left _ _ (by omega), Int.ediv_eq_zero_of_lt hr.1 hr.2, Int.zero_add]
    have e2 : lv a % d = r := by
      rw [hv, Int.add_comm, Int.add_mul_emod_self_left, Int.emod_eq_of_lt hr.1 hr.2]
    rw [e1, e2]
    have e3 : r % 4294967296 = r := Int.emod_eq_of_lt hr.1 (by omega)
    refine Ev.succ (h := fun k => (R1strip.f k o).bind fun t => some (t, r)) (fun k => ?_) (Ev.bind ht (Ev.of fun _ => rfl))
    simp only [R1short.l0]
    rw [if_neg (by decide), e3]
  | succ j ih =>
    intro o r hj ho lo hr hv
    have c1 : j < a.length := by omega
    have c2 : j < o.length := by omega
    have c3 : j ≤ a.length := by omega
    have e : ((j + 1 : Nat) : Int) - 1 = (j : Int) := by omega
    have e1 : wrap64 ((j : Int) - 1) = (j : Int) - 1 := w64 (by omega) (by omega)
    have hal := rd_ok ha (j : Int)
    have hb := div_limb hd hd1 hr hal
    have w1 : IntKind.u64.wrap d = d := wu64 d (by omega) (by omega)
    have w2 : IntKind.u64.wrap (r * 4294967296) = r * 4294967296 := wu64 _ (by omega) (by omega)
    have w3 : IntKind.u64.wrap (rd a (j : Int)) = rd a (j : Int) := wu64 _ (by omega) (by omega)
    have w4 : Go.bits .or .u64 (r * 4294967296) (rd a (j : Int)) = r * 4294967296 + rd a (j : Int) := or64 hr.1 (by omega) hal.1 hal.2
    have w5 : Int.tdiv (r * 4294967296 + rd a (j : Int)) d = (r * 4294967296 + rd a (j : Int)) / d := Int.tdiv_eq_ediv_of_nonneg (by omega)
    have w6 : Int.tmod (r * 4294967296 + rd a (j : Int)) d = (r * 4294967296 + rd a (j : Int)) % d := Int.tmod_eq_emod_of_nonneg (by omega)
    have w7 : IntKind.u64.wrap ((r * 4294967296 + rd a (j : Int)) / d) % 4294967296 = (r * 4294967296 + rd a (j : Int)) / d := by
      rw [wu64 _ hb.1 (by omega), Int.emod_eq_of_lt hb.1 hb.2.1]
    have h2 := ih (o.set j ((r * 4294967296 + rd a (j : Int)) / d)) ((r * 4294967296 + rd a (j : Int)) % d) c3 (lok_set ho hb.1 hb.2.1 _) (by rw [List.length_set]; exact lo) hb.2.2
      (by
        have e2 : lv ((o.set j ((r * 4294967296 + rd a (j : Int)) / d)).drop j) = (r * 4294967296 + rd a (j : Int)) / d + 4294967296 * lv (o.drop (j + 1)) := by
          have c4 : j < (o.set j ((r * 4294967296 + rd a (j : Int)) / d)).length := by rw [List.length_set]; exact c2
          rw [List.drop_eq_getElem_cons c4, List.getElem_set_self, List.drop_set_of_lt (by omega), lv]
        have e3 := Int.mul_ediv_add_emod (r * 4294967296 + rd a (j : Int)) d
        rw [lv_drop_rd j c1, e2, hv]
        revert e3
        generalize (r * 4294967296 + rd a (j : Int)) / d = q
        generalize (r * 4294967296 + rd a (j : Int)) % d = m
        generalize rd a (j : Int) = x
        intro e3
        grind)
    refine Ev.succ (fun k => ?_) h2
    simp only [R1short.l0]
    rw [e, e1, w1, w2, w3, w4, w5, w6, w7, if_pos (ix_nn _), if_pos (ix_nn _), if_pos (ix_lt c1), if_neg (by omega), if_pos (ix_lt c2), Int.toNat_natCast]
theorem short_ev {a : List Int} (ha : lok a) (la : a.length ≤ 1099511627776) {d : Int} (hd : 0 < d) (hd1 : d < 4294967296) : Ev (fun k => R1short.f k a d) (lm (lv a / d).toNat, lv a % d) := by
  have h := short_l0 a ha la d hd hd1 a.length (List.replicate a.length 0) 0 (Nat.le_refl _) (lok_replicate _) List.length_replicate ⟨by decide, hd⟩ (by
    rw [List.drop_length, List.drop_of_length_le (by rw [List.length_replicate]; exact Nat.le_refl _)]
    show (0 : Int) = d * 0 + 0
    rw [Int.mul_zero]; rfl)
  have e : wrap64 ((a.length : Int) - 1) = (a.length : Int) - 1 := w64 (by omega) (by omega)
  refine Ev.congr (fun k => ?_) h
  unfold R1short.f
  rw [if_pos (ix_nn _), Int.toNat_natCast, if_pos (by omega), e]
theorem times_wrap {u v o c : Int} (hu : 0 ≤ u ∧ u < 4294967296) (hv : 0 ≤ v ∧ v < 4294967296) (ho : 0 ≤ o ∧ o < 4294967296) (hc : 0 ≤ c ∧ c < 4294967296) :
    IntKind.u64.wrap (IntKind.u64.wrap (c + IntKind.u64.wrap (IntKind.u64.wrap u * IntKind.u64.wrap v)) + IntKind.u64.wrap o) = u * v + o + c := by
  have h := mul_limb hu hv ho hc
  rw [wu64 u (by omega) (by omega), wu64 v (by omega) (by omega), wu64 o (by omega) (by omega), wu64 (u * v) (by omega) (by omega), wu64 (c + u * v) (by omega) (by omega), wu64 (c + u * v + o) (by omega) (by omega)]
  omega
theorem times_l1 (x y : List Int) (hx : lok x) (hy : lok y) (lx : x.length ≤ 274877906944) (ly : y.length ≤ 274877906944) (i : Nat) (hi : i < x.length) (V : Int) (o0 : List Int)
    (H : ∀ o, lok o → o.length = x.length + y.length → lv o = V + BP i * (rd x (i : Int) * lv y) → Ev (fun k => R1times.l0 k x y o ((i + 1 : Nat) : Int)) (lm (lv x * lv y).toNat))
    (hz : rd o0 ((i + y.length : Nat) : Int) = 0) (d : Nat) : ∀ (j : Nat) (o : List Int) (c : Int), j + d = y.length → lok o → o.length = x.length + y.length → 0 ≤ c ∧ c < 4294967296 →
    lv o + BP (i + j) * c = V + BP i * (rd x (i : Int) * lv (y.take j)) → (∀ m : Nat, i + j ≤ m → rd o (m : Int) = rd o0 (m : Int)) →
    Ev (fun k => R1times.l1 k x y o (i : Int) c (j : Int)) (lm (lv x * lv y).toNat) := by
  induction d with
  | zero =>
    intro j o c hj ho lo hc hv hs
    have hj' : j = y.length := by omega
    subst hj'
    have c1 : i + y.length < o.length := by omega
    have c2 : i + y.length ≤ 4611686018427387904 := by omega
    have c3 : i ≤ 4611686018427387904 := by omega
    have h1 := H (o.set (i + y.length) c) (lok_set ho hc.1 hc.2 _) (by rw [List.length_set]; exact lo) (by
      rw [lv_set _ _ _ c1, ← rd_nat, hs _ (Nat.le_refl _), hz, Int.sub_zero, hv, List.take_of_length_le (Nat.le_refl _)])
    refine Ev.succ (fun k => ?_) h1
    simp only [R1times.l1]
    have e : c % 4294967296 = c := Int.emod_eq_of_lt hc.1 hc.2
    rw [if_neg (ix_nlt (Nat.le_refl _)), ix_add c2, ix_succ c3, if_pos (ix_nn _), if_pos (ix_lt c1), Int.toNat_natCast, e]
  | succ d ih =>
    intro j o c hj ho lo hc hv hs
    have c1 : j < y.length := by omega
    have c2 : i + j < o.length := by omega
    have c3 : i + j ≤ 4611686018427387904 := by omega
    have c4 : j ≤ 4611686018427387904 := by omega
    have c5 : j + 1 + d = y.length := by omega
    have hu := rd_ok hx (i : Int)
    have hvv := rd_ok hy (j : Int)
    have hoo := rd_ok ho ((i + j : Nat) : Int)
    have hb := mul_limb hu hvv hoo hc
    have hw := times_wrap hu hvv hoo hc
    have q0 : 0 ≤ (rd x (i : Int) * rd y (j : Int) + rd o ((i + j : Nat) : Int) + c) % 4294967296 := Int.emod_nonneg _ (by decide)
    have q1 := Int.emod_lt_of_pos (rd x (i : Int) * rd y (j : Int) + rd o ((i + j : Nat) : Int) + c) (show (0 : Int) < 4294967296 by decide)
    have q2 : 0 ≤ (rd x (i : Int) * rd y (j : Int) + rd o ((i + j : Nat) : Int) + c) / 4294967296 ∧ (rd x (i : Int) * rd y (j : Int) + rd o ((i + j : Nat) : Int) + c) / 4294967296 < 4294967296 := by
      revert hb
      generalize rd x (i : Int) * rd y (j : Int) + rd o ((i + j : Nat) : Int) + c = t
      intro hb
      omega
    have h2 := ih (j + 1) (o.set (i + j) ((rd x (i : Int) * rd y (j : Int) + rd o ((i + j : Nat) : Int) + c) % 4294967296)) ((rd x (i : Int) * rd y (j : Int) + rd o ((i + j : Nat) : Int) + c) / 4294967296) c5
      (lok_set ho q0 q1 _) (by rw [List.length_set]; exact lo) q2
      (by
        rw [lv_set _ _ _ c2, ← rd_nat, lv_take_rd y, ← Nat.add_assoc, BP_succ]
        have e := Int.mul_ediv_add_emod (rd x (i : Int) * rd y (j : Int) + rd o ((i + j : Nat) : Int) + c) 4294967296
        have eB : BP (i + j) = BP i * BP j := BP_add i j
        revert hv e
        rw [eB]
        generalize (rd x (i : Int) * rd y (j : Int) + rd o ((i + j : Nat) : Int) + c) % 4294967296 = m
        generalize (rd x (i : Int) * rd y (j : Int) + rd o ((i + j : Nat) : Int) + c) / 4294967296 = q
        generalize rd x (i : Int) = a
        generalize rd y (j : Int) = b
        generalize rd o ((i + j : Nat) : Int) = r
        intro hv e
        grind)
      (fun m hm => by rw [rd_set_ne _ _ (by omega)]; exact hs m (by omega))
    refine Ev.succ (fun k => ?_) h2
    simp only [R1times.l1]
    rw [if_pos (ix_lt c1), if_pos (ix_nn _), if_pos (ix_lt hi), if_pos (ix_nn _), ix_add c3, ix_succ c4, if_pos (ix_nn _), if_pos (ix_lt c2), hw, Int.toNat_natCast]
theorem times_l0 (x y : List Int) (hx : lok x) (hy : lok y) (lx : x.length ≤ 274877906944) (ly : y.length ≤ 274877906944) (d : Nat) : ∀ (i : Nat) (o : List Int), i + d = x.length → lok o → o.length = x.length + y.length →
    lv o = lv (x.take i) * lv y → Ev (fun k => R1times.l0 k x y o (i : Int)) (lm (lv x * lv y).toNat) := by
  induction d with
  | zero =>
    intro i o hi ho lo hv
    have hi' : i = x.length := by omega
    subst hi'
    rw [List.take_of_length_le (Nat.le_refl _)] at hv
    have lo2 : o.length ≤ 1099511627776 := by omega
    have ht := strip_ev ho (show o.length ≤ 70368744177664 by omega)
    rw [hv] at ht
    refine Ev.succ (h := fun k => (R1strip.f k o).bind fun t => some t) (fun k => ?_) (Ev.bind ht (Ev.of fun _ => rfl))
    simp only [R1times.l0]
    rw [if_neg (ix_nlt (Nat.le_refl _))]
  | succ d ih =>
    intro i o hi ho lo hv
    have c1 : i < x.length := by omega
    have c2 : i + 1 + d = x.length := by omega
    have hz : rd o ((i + y.length : Nat) : Int) = 0 := by
      have h1 := lv_lt (lok_take hx i)
      rw [List.length_take, Nat.min_eq_left (Nat.le_of_lt c1)] at h1
      have h2 := lv_lt hy
      have h3 := lv_nonneg (lok_take hx i)
      have h4 := lv_nonneg hy
      have h5 : lv o < BP (i + y.length) * 1 := by
        rw [Int.mul_one, hv, BP_add]
        have hP := BP_pos i
        have hQ := BP_pos y.length
        have h6 : lv (x.take i) * lv y ≤ lv (x.take i) * BP y.length := Int.mul_le_mul_of_nonneg_left (by omega) h3
        have h7 : lv (x.take i) * BP y.length < BP i * BP y.length := Int.mul_lt_mul_of_pos_right h1 hQ
        omega
      have h6 := rd_lt_of ho (i + y.length) 1 h5
      have h7 := (rd_ok ho ((i + y.length : Nat) : Int)).1
      omega
    have h1 := times_l1 x y hx hy lx ly i c1 (lv o) o (fun o' ho' lo' hv' => ih (i + 1) o' c2 ho' lo' (by rw [hv', hv, lv_take_rd x]; grind)) hz y.length 0 o 0 (by omega) ho lo ⟨by decide, by decide⟩
      (by rw [List.take_zero]; show lv o + BP (i + 0) * 0 = lv o + BP i * (rd x (i : Int) * 0); rw [Int.mul_zero, Int.mul_zero, Int.mul_zero]) (fun m _ => rfl)
    refine Ev.succ (fun k => ?_) h1
    simp only [R1times.l0]
    rw [if_pos (ix_lt c1)]
    rfl
theorem times_ev (a b : Nat) (la : (lm a).length ≤ 274877906944) (lb : (lm b).length ≤ 274877906944) : Ev (fun k => R1times.f k (lm a) (lm b)) (lm (a * b)) := by
  have h := times_l0 (lm a) (lm b) (lm_can _).1 (lm_can _).1 la lb (lm a).length 0 (List.replicate ((lm a).length + (lm b).length) 0) (by omega) (lok_replicate _) List.length_replicate
    (by rw [lv_replicate, List.take_zero]; show (0 : Int) = 0 * _; rw [Int.zero_mul])
  rw [lm_lv, lm_lv, ← Int.natCast_mul, Int.toNat_natCast] at h
  unfold R1times.f
  refine Ev.congr (fun k => ?_) h
  rw [ix_add (by omega), if_pos (ix_nn _), Int.toNat_natCast, if_pos (by omega)]
  rfl
theorem minus_l0 (x y : List Int) (hx : lok x) (hy : lok y) (lx : x.length ≤ 549755813888) (hxy : lv y ≤ lv x) (lyx : y.length ≤ x.length) (d : Nat) : ∀ (i : Nat) (z : List Int) (c : Int), i + d = x.length → lok z → z.length = x.length → 0 ≤ c ∧ c ≤ 1 →
    lv (z.take i) = lv (x.take i) - lv (y.take i) + BP i * c → Ev (fun k => R1minus.l0 k x y z c (i : Int)) (lm (lv x - lv y).toNat) := by
  induction d with
  | zero =>
    intro i z c hi hz lz hc hv
    have hi' : i = x.length := by omega
    subst hi'
    rw [List.take_of_length_le (Nat.le_of_eq lz), List.take_of_length_le (Nat.le_refl _), List.take_of_length_le lyx] at hv
    have h1 := lv_lt hz
    rw [lz] at h1
    have hP := BP_pos x.length
    have hc0 : c = 0 := by
      rcases (show c = 0 ∨ c = 1 by omega) with h | h
      · exact h
      · rw [h, Int.mul_one] at hv; omega
    rw [hc0, Int.mul_zero, Int.add_zero] at hv
    have ht := strip_ev hz (show z.length ≤ 70368744177664 by omega)
    rw [hv] at ht
    refine Ev.succ (h := fun k => (R1strip.f k z).bind fun t => some t) (fun k => ?_) (Ev.bind ht (Ev.of fun _ => rfl))
    simp only [R1minus.l0]
    rw [if_neg (ix_nlt (Nat.le_refl _))]
  | succ d ih =>
    intro i z c hi hz lz hc hv
    have c1 : i < x.length := by omega
    have c2 : i < z.length := by omega
    have c3 : i ≤ 4611686018427387904 := by omega
    have c4 : i + 1 + d = x.length := by omega
    have hxi := rd_ok hx (i : Int)
    have hyi := rd_ok hy (i : Int)
    have w1 : IntKind.u64.wrap (rd x (i : Int)) = rd x (i : Int) := wu64 _ (by omega) (by omega)
    have w2 : IntKind.u64.wrap (rd y (i : Int)) = rd y (i : Int) := wu64 _ (by omega) (by omega)
    have w3 : IntKind.u64.wrap (c + rd y (i : Int)) = c + rd y (i : Int) := wu64 _ (by omega) (by omega)
    have w4 : IntKind.u64.wrap (rd x (i : Int) + 4294967296) = rd x (i : Int) + 4294967296 := wu64 _ (by omega) (by omega)
    have key : ∀ (v c' : Int), 0 ≤ v → v < 4294967296 → 0 ≤ c' ∧ c' ≤ 1 → v = rd x (i : Int) - rd y (i : Int) - c + 4294967296 * c' → Ev (fun k => R1minus.l0 k x y (z.set i v) c' ((i + 1 : Nat) : Int)) (lm (lv x - lv y).toNat) := by
      intro v c' hv0 hv1 hc' he
      refine ih (i + 1) (z.set i v) c' c4 (lok_set hz hv0 hv1 _) (by rw [List.length_set]; exact lz) hc' ?_
      rw [lv_set_take _ _ _ c2, hv, lv_take_rd x, lv_take_rd y, BP_succ, he]
      generalize rd x (i : Int) = a
      generalize rd y (i : Int) = b
      clear ih w1 w2 w3 w4 hv
      grind
    by_cases hlt : rd x (i : Int) < c + rd y (i : Int)
    · have w5 : IntKind.u64.wrap (rd x (i : Int) + 4294967296 - (c + rd y (i : Int))) = rd x (i : Int) + 4294967296 - (c + rd y (i : Int)) := wu64 _ (by omega) (by omega)
      have e5 : (rd x (i : Int) + 4294967296 - (c + rd y (i : Int))) % 4294967296 = rd x (i : Int) + 4294967296 - (c + rd y (i : Int)) := Int.emod_eq_of_lt (by omega) (by omega)
      have h := key _ 1 (show 0 ≤ rd x (i : Int) + 4294967296 - (c + rd y (i : Int)) by omega) (by omega) ⟨by decide, by decide⟩ (by omega)
      refine Ev.succ (fun k => ?_) h
      simp only [R1minus.l0]
      by_cases hy1 : i < y.length
      · rw [if_pos (ix_lt c1), if_pos (ix_lt hy1), if_pos (ix_nn _), w1, w2, w3, if_pos hlt, if_pos (ix_lt c2), w4, w5, e5, ix_succ c3, Int.toNat_natCast]
      · have hy0 : rd y (i : Int) = 0 := rd_out (Nat.not_lt.1 hy1)
        rw [hy0, Int.add_zero] at hlt w5 e5 ⊢
        rw [if_pos (ix_lt c1), if_neg (ix_nlt (Nat.not_lt.1 hy1)), if_pos (ix_nn _), w1, if_pos hlt, if_pos (ix_lt c2), w4, w5, e5, ix_succ c3, Int.toNat_natCast]
    · have w5 : IntKind.u64.wrap (rd x (i : Int) - (c + rd y (i : Int))) = rd x (i : Int) - (c + rd y (i : Int)) := wu64 _ (by omega) (by omega)
      have e5 : (rd x (i : Int) - (c + rd y (i : Int))) % 4294967296 = rd x (i : Int) - (c + rd y (i : Int)) := Int.emod_eq_of_lt (by omega) (by omega)
      have h := key _ 0 (show 0 ≤ rd x (i : Int) - (c + rd y (i : Int)) by omega) (by omega) ⟨by decide, by decide⟩ (by omega)
      refine Ev.succ (fun k => ?_) h
      simp only [R1minus.l0]
      by_cases hy1 : i < y.length
      · rw [if_pos (ix_lt c1), if_pos (ix_lt hy1), if_pos (ix_nn _), w1, w2, w3, if_neg hlt, if_pos (ix_lt c2), w5, e5, ix_succ c3, Int.toNat_natCast]
      · have hy0 : rd y (i : Int) = 0 := rd_out (Nat.not_lt.1 hy1)
        rw [hy0, Int.add_zero] at hlt w5 e5 ⊢
        rw [if_pos (ix_lt c1), if_neg (ix_nlt (Nat.not_lt.1 hy1)), if_pos (ix_nn _), w1, if_neg hlt, if_pos (ix_lt c2), w5, e5, ix_succ c3, Int.toNat_natCast]
theorem minus_ev (a b : Nat) (hab : b ≤ a) (la : (lm a).length ≤ 549755813888) : Ev (fun k => R1minus.f k (lm a) (lm b)) (lm (a - b)) := by
  have h := minus_l0 (lm a) (lm b) (lm_can _).1 (lm_can _).1 la (by rw [lm_lv, lm_lv]; omega) (lm_len_le hab) (lm a).length 0 (List.replicate (lm a).length 0) 0 (by omega) (lok_replicate _) List.length_replicate ⟨by decide, by decide⟩
    (by rw [List.take_zero, List.take_zero, List.take_zero, BP_zero]; decide)
  rw [lm_lv, lm_lv] at h
  have e : ((a : Int) - (b : Int)).toNat = a - b := by omega
  rw [e] at h
  unfold R1minus.f
  refine Ev.congr (fun k => ?_) h
  rw [if_pos (ix_nn _), Int.toNat_natCast, if_pos (by omega)]
  rfl
theorem plus_step (x y z : List Int) (i : Nat) (hi : i < x.length ∨ i < y.length) (hx : lok x) (hy : lok y) (c : Int) (hc : 0 ≤ c ∧ c ≤ 1) (hz : z.length < 35184372088832) (hi1 : i ≤ 4611686018427387904) (k : Nat) :
    R1plus.l0 (k + 2) x y z c (i : Int) = R1plus.l0 k x y (z ++ [(c + rd x (i : Int) + rd y (i : Int)) % 4294967296]) ((c + rd x (i : Int) + rd y (i : Int)) / 4294967296) ((i + 1 : Nat) : Int) := by
  have hxi := rd_ok hx (i : Int)
  have hyi := rd_ok hy (i : Int)
  have w1 : IntKind.u64.wrap (rd x (i : Int)) = rd x (i : Int) := wu64 _ (by omega) (by omega)
  have w2 : IntKind.u64.wrap (rd y (i : Int)) = rd y (i : Int) := wu64 _ (by omega) (by omega)
  have w3 : IntKind.u64.wrap (c + rd x (i : Int)) = c + rd x (i : Int) := wu64 _ (by omega) (by omega)
  have w4 : IntKind.u64.wrap (c + rd y (i : Int)) = c + rd y (i : Int) := wu64 _ (by omega) (by omega)
  have w5 : IntKind.u64.wrap (c + rd x (i : Int) + rd y (i : Int)) = c + rd x (i : Int) + rd y (i : Int) := wu64 _ (by omega) (by omega)
  by_cases h1 : i < x.length
  · by_cases h2 : i < y.length
    · simp only [R1plus.l0, R1plus.j1]
      rw [if_pos (ix_lt h1), if_pos trivial, if_pos (ix_lt h1), if_pos (ix_nn _), if_pos (ix_lt h2), if_pos hz, w1, w2, w3, w5, ix_succ hi1]
    · have e := rd_out (Nat.not_lt.1 h2)
      rw [e, Int.add_zero]
      simp only [R1plus.l0, R1plus.j1]
      rw [if_pos (ix_lt h1), if_pos trivial, if_pos (ix_lt h1), if_pos (ix_nn _), if_neg (ix_nlt (Nat.not_lt.1 h2)), if_pos hz, w1, w3, ix_succ hi1]
  · have h2 : i < y.length := by omega
    have e := rd_out (Nat.not_lt.1 h1)
    rw [e, Int.add_zero]
    simp only [R1plus.l0, R1plus.j1]
    rw [if_neg (ix_nlt (Nat.not_lt.1 h1)), if_pos (ix_lt h2), if_pos trivial, if_neg (ix_nlt (Nat.not_lt.1 h1)), if_pos (ix_lt h2), if_pos (ix_nn _), if_pos hz, w2, w4, ix_succ hi1]
theorem lv_take_all {l : List Int} {n : Nat} (h : l.length ≤ n) : lv (l.take n) = lv l := by rw [List.take_of_length_le h]
theorem plus_alg {z x y a b q m c P : Int} (h : z + P * c = x + y) (e : 4294967296 * q + m = c + a + b) : z + P * m + 4294967296 * P * q = x + P * a + (y + P * b) := by
  have e2 : m = c + a + b - 4294967296 * q := by omega
  rw [e2]; grind
theorem plus_l0 (x y : List Int) (hx : lok x) (hy : lok y) (n : Nat) (hn : n ≤ 549755813888) (lx : x.length ≤ n) (ly : y.length ≤ n) (hxy : n = x.length ∨ n = y.length) (d : Nat) : ∀ (i : Nat) (z : List Int) (c : Int), i + d = n → lok z → z.length = i → 0 ≤ c ∧ c ≤ 1 →
    lv z + BP i * c = lv (x.take i) + lv (y.take i) → ∃ r, Ev (fun k => R1plus.l0 k x y z c (i : Int)) r ∧ lok r ∧ lv r = lv x + lv y ∧ (r.length = n ∨ (r.length = n + 1 ∧ BP n ≤ lv r)) := by
  induction d with
  | zero =>
    intro i z c hi hz lz hc hv
    have hi' : i = n := by omega
    subst hi'
    rw [lv_take_all lx, lv_take_all ly] at hv
    have c1 : i ≤ 4611686018427387904 := by omega
    have c2 : z.length < 35184372088832 := by omega
    have c3 : x.length ≤ i + 1 := by omega
    have c4 : y.length ≤ i + 1 := by omega
    rcases (show c = 0 ∨ c = 1 by omega) with h | h
    · subst h
      rw [Int.mul_zero, Int.add_zero] at hv
      refine ⟨z, Ev.succ (h := fun k => R1plus.j1 k x y z 0 (i : Int) false) (fun k => ?_) (Ev.succ (h := fun k => some z) (fun k => ?_) (Ev.of fun _ => rfl)), hz, hv, Or.inl lz⟩
      · simp only [R1plus.l0]
        rw [if_neg (ix_nlt lx), if_neg (ix_nlt ly)]
        rfl
      · simp only [R1plus.j1]
        rw [if_neg (by decide)]
    · subst h
      rw [Int.mul_one] at hv
      have h0 := lv_nonneg hz
      have e : lv (z ++ [1]) = lv x + lv y := by
        rw [lv_append, lz]
        show lv z + BP i * (1 + 4294967296 * 0) = _
        rw [Int.mul_zero, Int.add_zero, Int.mul_one]; exact hv
      refine ⟨z ++ [1], Ev.succ (h := fun k => R1plus.j1 k x y z 1 (i : Int) true) (fun k => ?_) (Ev.succ (h := fun k => R1plus.l0 k x y (z ++ [1]) 0 ((i + 1 : Nat) : Int)) (fun k => ?_) (Ev.succ (h := fun k => R1plus.j1 k x y (z ++ [1]) 0 ((i + 1 : Nat) : Int) false) (fun k => ?_) (Ev.succ (h := fun k => some (z ++ [1])) (fun k => ?_) (Ev.of fun _ => rfl)))), lok_append hz (lok_cons (by decide) (by decide) lok_nil), e, Or.inr ⟨by rw [List.length_append, lz]; rfl, by rw [e, ← hv]; omega⟩⟩
      · simp only [R1plus.l0]
        rw [if_neg (ix_nlt lx), if_neg (ix_nlt ly)]
        rfl
      · simp only [R1plus.j1]
        rw [if_pos trivial, if_neg (ix_nlt lx), if_neg (ix_nlt ly), if_pos c2, ix_succ c1]
        rfl
      · simp only [R1plus.l0]
        rw [if_neg (ix_nlt c3), if_neg (ix_nlt c4)]
        rfl
      · simp only [R1plus.j1]
        rw [if_neg (by decide)]
  | succ d ih =>
    intro i z c hi hz lz hc hv
    have c0 : i < x.length ∨ i < y.length := by omega
    have c1 : i ≤ 4611686018427387904 := by omega
    have c2 : z.length < 35184372088832 := by omega
    have hxi := rd_ok hx (i : Int)
    have hyi := rd_ok hy (i : Int)
    have hdm := Int.mul_ediv_add_emod (c + rd x (i : Int) + rd y (i : Int)) 4294967296
    have m0 := Int.emod_nonneg (c + rd x (i : Int) + rd y (i : Int)) (show (4294967296 : Int) ≠ 0 by decide)
    have m1 := Int.emod_lt_of_pos (c + rd x (i : Int) + rd y (i : Int)) (show (0 : Int) < 4294967296 by decide)
    obtain ⟨r, hr1, hr2⟩ := ih (i + 1) (z ++ [(c + rd x (i : Int) + rd y (i : Int)) % 4294967296]) ((c + rd x (i : Int) + rd y (i : Int)) / 4294967296) (by omega) (lok_append hz (lok_cons m0 m1 lok_nil)) (by rw [List.length_append, lz]; rfl) ⟨by omega, by omega⟩
      (by
        rw [lv_append, lz, lv_take_rd x, lv_take_rd y, BP_succ]
        show lv z + BP i * (_ + 4294967296 * 0) + _ = _
        rw [Int.mul_zero, Int.add_zero]
        exact plus_alg hv hdm)
    refine ⟨r, Ev.succ (h := fun k => R1plus.l0 (k + 1) x y z c (i : Int)) (fun k => rfl) ?_, hr2⟩
    obtain ⟨K, hK⟩ := hr1
    refine ⟨K + 1, fun k hk => ?_⟩
    obtain ⟨k, rfl⟩ : ∃ m, k = m + 1 := ⟨k - 1, by omega⟩
    show R1plus.l0 (k + 2) x y z c (i : Int) = some r
    rw [plus_step x y z i c0 hx hy c hc c2 c1 k]
    exact hK k (by omega)
theorem plus_ev (a b : Nat) (la : (lm a).length ≤ 274877906944) (lb : (lm b).length ≤ 274877906944) : Ev (fun k => R1plus.f k (lm a) (lm b)) (lm (a + b)) := by
  obtain ⟨n, hn, lx, ly, hxy⟩ : ∃ n, n ≤ 549755813888 ∧ (lm a).length ≤ n ∧ (lm b).length ≤ n ∧ (n = (lm a).length ∨ n = (lm b).length) := by
    rcases Nat.le_total (lm a).length (lm b).length with h | h
    · exact ⟨(lm b).length, by omega, h, Nat.le_refl _, Or.inr rfl⟩
    · exact ⟨(lm a).length, by omega, Nat.le_refl _, h, Or.inl rfl⟩
  have ca := lm_can a
  have cb := lm_can b
  obtain ⟨r, hr1, hr2, hr3, hr4⟩ := plus_l0 (lm a) (lm b) ca.1 cb.1 n hn lx ly hxy n 0 [] 0 (by omega) lok_nil rfl ⟨by decide, by decide⟩ (by rw [List.take_zero, List.take_zero]; decide)
  have e : r = lm (a + b) := by
    have hc : lcan r := by
      rcases hr4 with h | ⟨h, h2⟩
      · cases n with
        | zero => rw [List.length_eq_zero_iff.1 h]; exact lcan_nil
        | succ q =>
          refine lcan_of_ge hr2 h ?_
          have h0 := lv_nonneg ca.1
          have h1 := lv_nonneg cb.1
          rcases hxy with hx | hx
          · have h3 := lcan_pos ca (fun h => by rw [h] at hx; cases hx)
            rw [← hx] at h3
            rw [hr3]
            exact Int.le_trans h3 (by omega)
          · have h3 := lcan_pos cb (fun h => by rw [h] at hx; cases hx)
            rw [← hx] at h3
            rw [hr3]
            exact Int.le_trans h3 (by omega)
      · exact lcan_of_ge hr2 h h2
    rw [lcan_lm hc, hr3, lm_lv, lm_lv, ← Int.natCast_add, Int.toNat_natCast]
  rw [← e]
  exact hr1
theorem rFromUint_ev (u : Nat) (hu : u < 18446744073709551616) : Ev (fun k => R1FromUint.f k (u : Int)) (enc u) := by
  have e : lv [(u : Int) % 4294967296, (u : Int) / 4294967296 % 4294967296] = (u : Int) := by
    simp only [lv]
    omega
  have h := rtext_ev (l := [(u : Int) % 4294967296, (u : Int) / 4294967296 % 4294967296]) (lok_cons (by omega) (by omega) (lok_cons (by omega) (by omega) lok_nil)) (show (2 : Nat) ≤ _ by decide)
  rw [e, Int.toNat_natCast] at h
  unfold R1FromUint.f
  exact Ev.bind h (Ev.of fun _ => rfl)
theorem size_ev (n : Int) (h0 : -9223372036854775808 ≤ n) (h1 : n ≤ 9223372036854775807) : R1size.f n = some (n.natAbs : Int) := by
  unfold R1size.f
  by_cases h : n < 0
  · rw [if_pos h, w64 (x := n + 1) (by omega) (by omega), w64 (x := -(n + 1)) (by omega) (by omega), wu64 (-(n + 1)) (by omega) (by omega), wu64 _ (by omega) (by omega)]
    congr 1
    omega
  · rw [if_neg h, wu64 _ (by omega) (by omega)]
    congr 1
    omega
theorem and_low {t : Int} (h0 : 0 ≤ t) (h1 : t < 18446744073709551616) : Go.bits .and .u64 t 4294967295 = t % 4294967296 := by
  obtain ⟨m, rfl⟩ := Int.eq_ofNat_of_zero_le h0
  have h := (bits_nat .u64 64 (by decide) wraps_u64 m 4294967295 (by omega) (by decide)).1
  have e : m &&& 4294967295 = m % 4294967296 := Nat.and_two_pow_sub_one_eq_mod m 32
  rw [e] at h
  rw [show (4294967295 : Int) = ((4294967295 : Nat) : Int) from rfl, h]
  omega
theorem lv_drop_set (u : List Int) {i m : Nat} (v : Int) (h : i < m) : lv ((u.set i v).drop m) = lv (u.drop m) := by rw [List.drop_set_of_lt h]
theorem ra1 {x A P D a b c q m : Int} (hv : x + P * c = A + D) (e : 4294967296 * q + m = c + a + b) : x + P * (m - a) + 4294967296 * P * q = A + (D + P * b) := by
  have : m = c + a + b - 4294967296 * q := by omega
  rw [this]; grind
theorem rlong_l4 (s : Int) (d : List Int) (hd : lok d) (n : Nat) (hn : d.length = n) (j L : Nat) (hL : j + n < L) (hL1 : L ≤ 1099511627776) (o : List Int) (ho : j < o.length) (g A : Int) (R : List Int × List Int)
    (HC : ∀ u', lok u' → u'.length = L → lv (u'.drop (j + n + 1)) = 0 → (∃ v : Int, (v = 0 ∨ v = 1) ∧ lv u' = A + BP j * lv d - BP (j + n + 1) * v) → Ev (fun k => R1long.l1 k (n : Int) s u' d (o.set j (g % 4294967296)) ((j : Int) - 1)) R)
    (m : Nat) : ∀ (i : Nat) (u : List Int) (c : Int), i + m = n → lok u → u.length = L → lv (u.drop (j + n + 1)) = 0 → 0 ≤ c ∧ c ≤ 1 → lv u + BP (j + i) * c = A + BP j * lv (d.take i) →
    Ev (fun k => R1long.l4 k (n : Int) s u d o (j : Int) g c (i : Int)) R := by
  induction m with
  | zero =>
    intro i u c hi hu lu hz hc hv
    have hi' : i = n := by omega
    subst hi'
    have c1 : j + i < u.length := by omega
    have c2 : j + i ≤ 4611686018427387904 := by omega
    have c3 : -9223372036854775808 ≤ (j : Int) - 1 := by omega
    have c4 : (j : Int) - 1 ≤ 9223372036854775807 := by omega
    have c5 : j + i < j + i + 1 := by omega
    rw [List.take_of_length_le (Nat.le_of_eq hn)] at hv
    have hr := rd_ok hu ((j + i : Nat) : Int)
    have hdm := Int.mul_ediv_add_emod (rd u ((j + i : Nat) : Int) + c) 4294967296
    have m0 := Int.emod_nonneg (rd u ((j + i : Nat) : Int) + c) (show (4294967296 : Int) ≠ 0 by decide)
    have m1 := Int.emod_lt_of_pos (rd u ((j + i : Nat) : Int) + c) (show (0 : Int) < 4294967296 by decide)
    have e0 : c % 4294967296 = c := by omega
    have h := HC (u.set (j + i) ((rd u ((j + i : Nat) : Int) + c) % 4294967296)) (lok_set hu m0 m1 _) (by rw [List.length_set]; exact lu) (by rw [lv_drop_set _ _ c5]; exact hz)
      ⟨(rd u ((j + i : Nat) : Int) + c) / 4294967296, by omega, by
        rw [lv_set _ _ _ c1, ← rd_nat, ← hv, BP_succ]
        have : (rd u ((j + i : Nat) : Int) + c) % 4294967296 = rd u ((j + i : Nat) : Int) + c - 4294967296 * ((rd u ((j + i : Nat) : Int) + c) / 4294967296) := by omega
        rw [this]
        generalize (rd u ((j + i : Nat) : Int) + c) / 4294967296 = q
        generalize rd u ((j + i : Nat) : Int) = r
        clear HC hv hdm m0 m1 this hr hz
        grind⟩
    refine Ev.succ (fun k => ?_) h
    simp only [R1long.l4]
    rw [if_neg (ix_nlt (Nat.le_refl _)), ix_add c2, if_pos (ix_nn _), if_pos (ix_lt c1), if_pos (ix_nn _), if_pos (ix_lt ho), e0, Int.toNat_natCast, Int.toNat_natCast, w64 c3 c4]
  | succ m ih =>
    intro i u c hi hu lu hz hc hv
    have c0 : i < n := by omega
    have c1 : j + i < u.length := by omega
    have c2 : j + i ≤ 4611686018427387904 := by omega
    have c3 : i ≤ 4611686018427387904 := by omega
    have c4 : i < d.length := by omega
    have c5 : i + 1 + m = n := by omega
    have c6 : j + i < j + n + 1 := by omega
    have c7 : j + (i + 1) = j + i + 1 := by omega
    have hr := rd_ok hu ((j + i : Nat) : Int)
    have hdd := rd_ok hd (i : Int)
    have hdm := Int.mul_ediv_add_emod (c + rd u ((j + i : Nat) : Int) + rd d (i : Int)) 4294967296
    have m0 := Int.emod_nonneg (c + rd u ((j + i : Nat) : Int) + rd d (i : Int)) (show (4294967296 : Int) ≠ 0 by decide)
    have m1 := Int.emod_lt_of_pos (c + rd u ((j + i : Nat) : Int) + rd d (i : Int)) (show (0 : Int) < 4294967296 by decide)
    have q0 : 0 ≤ (c + rd u ((j + i : Nat) : Int) + rd d (i : Int)) / 4294967296 ∧ (c + rd u ((j + i : Nat) : Int) + rd d (i : Int)) / 4294967296 ≤ 1 := by omega
    have h := ih (i + 1) (u.set (j + i) ((c + rd u ((j + i : Nat) : Int) + rd d (i : Int)) % 4294967296)) ((c + rd u ((j + i : Nat) : Int) + rd d (i : Int)) / 4294967296) c5 (lok_set hu m0 m1 _) (by rw [List.length_set]; exact lu) (by rw [lv_drop_set _ _ c6]; exact hz) q0
      (by
        rw [lv_set _ _ _ c1, ← rd_nat, lv_take_rd d, c7, BP_succ, Int.mul_add, ← Int.mul_assoc, ← BP_add]
        exact ra1 hv hdm)
    have w1 : IntKind.u64.wrap (rd u ((j + i : Nat) : Int)) = rd u ((j + i : Nat) : Int) := wu64 _ (by omega) (by omega)
    have w2 : IntKind.u64.wrap (c + rd u ((j + i : Nat) : Int)) = c + rd u ((j + i : Nat) : Int) := wu64 _ (by omega) (by omega)
    have w3 : IntKind.u64.wrap (rd d (i : Int)) = rd d (i : Int) := wu64 _ (by omega) (by omega)
    have w4 : IntKind.u64.wrap (c + rd u ((j + i : Nat) : Int) + rd d (i : Int)) = c + rd u ((j + i : Nat) : Int) + rd d (i : Int) := wu64 _ (by omega) (by omega)
    refine Ev.succ (fun k => ?_) h
    simp only [R1long.l4]
    rw [if_pos (ix_lt c0), ix_add c2, if_pos (ix_nn _), if_pos (ix_lt c1), if_pos (ix_nn _), if_pos (ix_lt c4), w1, w2, w3, w4, ix_succ c3, Int.toNat_natCast]
theorem rs1 {x A g D P r y b b' carry t v q m : Int} (hv : x = A - g * D + P * (carry + b)) (et : t = carry + g * v) (e : 4294967296 * q + m = t) (ey : y = m + b) :
    x + P * (r - y + 4294967296 * b' - r) = A - g * (D + P * v) + 4294967296 * P * (q + b') := by
  have : m = carry + g * v - 4294967296 * q := by omega
  rw [hv, ey, this]; grind
theorem rlong_l3 (s : Int) (d : List Int) (hd : lok d) (n : Nat) (hn : d.length = n) (j L : Nat) (hL : j + n < L) (hL1 : L ≤ 1099511627776) (o : List Int) (ho : j < o.length) (g A : Int) (hA : 0 ≤ A) (hg : 0 ≤ g ∧ g < 4294967296) (R : List Int × List Int)
    (HC : ∀ u' g', (g' = g ∨ g' = g - 1) → lok u' → u'.length = L → lv (u'.drop (j + n + 1)) = 0 → (∃ v : Int, (v = 0 ∨ v = 1) ∧ lv u' = A - g' * (BP j * lv d) + BP (j + n + 1) * v ∧ (g' = g → v = 0) ∧ (g' = g - 1 → A - g * (BP j * lv d) < 0)) → Ev (fun k => R1long.l1 k (n : Int) s u' d (o.set j (g' % 4294967296)) ((j : Int) - 1)) R)
    (m : Nat) : ∀ (i : Nat) (u : List Int) (c b : Int), i + m = n → lok u → u.length = L → lv (u.drop (j + n + 1)) = 0 → 0 ≤ c ∧ c < 4294967296 → b = 0 ∨ b = 1 → lv u = A - g * (BP j * lv (d.take i)) + BP (j + i) * (c + b) →
    Ev (fun k => R1long.l3 k (n : Int) s u d o (j : Int) g c b (i : Int)) R := by
  induction m with
  | zero =>
    intro i u c b hi hu lu hz hc hb hv
    have hi' : i = n := by omega
    subst hi'
    have c1 : j + i < u.length := by omega
    have c2 : j + i ≤ 4611686018427387904 := by omega
    have c3 : -9223372036854775808 ≤ (j : Int) - 1 := by omega
    have c4 : (j : Int) - 1 ≤ 9223372036854775807 := by omega
    have c5 : j + i < j + i + 1 := by omega
    rw [List.take_of_length_le (Nat.le_of_eq hn)] at hv
    have hr := rd_ok hu ((j + i : Nat) : Int)
    have w1 : IntKind.u64.wrap (rd u ((j + i : Nat) : Int)) = rd u ((j + i : Nat) : Int) := wu64 _ (by omega) (by omega)
    have w2 : IntKind.u64.wrap (c + b) = c + b := wu64 _ (by omega) (by omega)
    by_cases hlt : rd u ((j + i : Nat) : Int) < c + b
    · have e1 : IntKind.u64.wrap (rd u ((j + i : Nat) : Int) - (c + b)) % 4294967296 = rd u ((j + i : Nat) : Int) - (c + b) + 4294967296 := by
        rw [wu64']
        omega
      have v0 : 0 ≤ rd u ((j + i : Nat) : Int) - (c + b) + 4294967296 := by omega
      have v1 : rd u ((j + i : Nat) : Int) - (c + b) + 4294967296 < 4294967296 := by omega
      have hu1 : lok (u.set (j + i) (rd u ((j + i : Nat) : Int) - (c + b) + 4294967296)) := lok_set hu v0 v1 _
      have lu1 : (u.set (j + i) (rd u ((j + i : Nat) : Int) - (c + b) + 4294967296)).length = L := by rw [List.length_set]; exact lu
      have hz1 : lv ((u.set (j + i) (rd u ((j + i : Nat) : Int) - (c + b) + 4294967296)).drop (j + i + 1)) = 0 := by rw [lv_drop_set _ _ c5]; exact hz
      have vu1 : lv (u.set (j + i) (rd u ((j + i : Nat) : Int) - (c + b) + 4294967296)) = A - g * (BP j * lv d) + BP (j + i + 1) := by
        rw [lv_set _ _ _ c1, ← rd_nat, hv, BP_succ]
        generalize rd u ((j + i : Nat) : Int) = r
        clear HC hv hr hz hz1 hu1 lu1 v0 v1 e1 w1 w2
        grind
      have hneg : A - g * (BP j * lv d) < 0 := by
        have h1 := lv_split (u.set (j + i) (rd u ((j + i : Nat) : Int) - (c + b) + 4294967296)) (j + i + 1) (by rw [lu1]; omega)
        rw [hz1, Int.mul_zero, Int.add_zero] at h1
        have h2 := lv_lt (lok_take hu1 (j + i + 1))
        rw [List.length_take, lu1, Nat.min_eq_left (by omega), ← h1, vu1] at h2
        omega
      have w3 : IntKind.u64.wrap (g - 1) = g - 1 := by
        have hg1 : 1 ≤ g := by
          refine Int.not_lt.1 fun h => ?_
          have hg0 : g = 0 := by omega
          rw [hg0, Int.zero_mul, Int.sub_zero] at hneg
          omega
        exact wu64 _ (by omega) (by omega)
      have h := rlong_l4 s d hd i hn j L hL hL1 o ho (g - 1) (A - g * (BP j * lv d) + BP (j + i + 1)) R (fun u' h1 h2 h3 ⟨v, hv0, hv1⟩ => HC u' (g - 1) (Or.inr rfl) h1 h2 h3 ⟨1 - v, by omega, by rw [hv1]; clear HC hv hr hz hz1 hu1 lu1 v0 v1 e1 w1 w2 w3 vu1 hneg; grind, fun h => by omega, fun _ => hneg⟩) i 0 _ 0 (by omega) hu1 lu1 hz1 ⟨by decide, by decide⟩
        (by rw [vu1, List.take_zero]; show _ + BP (j + 0) * 0 = _ + BP j * 0; rw [Int.mul_zero, Int.mul_zero])
      refine Ev.succ (fun k => ?_) h
      simp only [R1long.l3]
      rw [if_neg (ix_nlt (Nat.le_refl _)), ix_add c2, if_pos (ix_nn _), if_pos (ix_lt c1), Option.bind_some, w1, w2, if_pos hlt, e1, w3, Int.toNat_natCast]
      rfl
    · have e1 : IntKind.u64.wrap (rd u ((j + i : Nat) : Int) - (c + b)) % 4294967296 = rd u ((j + i : Nat) : Int) - (c + b) := by
        rw [wu64']
        omega
      have v0 : 0 ≤ rd u ((j + i : Nat) : Int) - (c + b) := by omega
      have v1 : rd u ((j + i : Nat) : Int) - (c + b) < 4294967296 := by omega
      have h := HC (u.set (j + i) (rd u ((j + i : Nat) : Int) - (c + b))) g (Or.inl rfl) (lok_set hu v0 v1 _) (by rw [List.length_set]; exact lu) (by rw [lv_drop_set _ _ c5]; exact hz)
        ⟨0, Or.inl rfl, by
          rw [lv_set _ _ _ c1, ← rd_nat, hv]
          generalize rd u ((j + i : Nat) : Int) = r
          clear HC hv hr hz v0 v1 e1 w1 w2
          grind, fun _ => rfl, fun h => by omega⟩
      refine Ev.succ (fun k => ?_) h
      simp only [R1long.l3]
      rw [if_neg (ix_nlt (Nat.le_refl _)), ix_add c2, if_pos (ix_nn _), if_pos (ix_lt c1), Option.bind_some, w1, w2, if_neg hlt, if_pos (ix_nn _), if_pos (ix_lt ho), e1, Int.toNat_natCast, Int.toNat_natCast, w64 c3 c4]
  | succ m ih =>
    intro i u c b hi hu lu hz hc hb hv
    have c0 : i < n := by omega
    have c1 : j + i < u.length := by omega
    have c2 : j + i ≤ 4611686018427387904 := by omega
    have c3 : i ≤ 4611686018427387904 := by omega
    have c4 : i < d.length := by omega
    have c5 : i + 1 + m = n := by omega
    have c6 : j + i < j + n + 1 := by omega
    have c7 : j + (i + 1) = j + i + 1 := by omega
    have hr := rd_ok hu ((j + i : Nat) : Int)
    have hdd := rd_ok hd (i : Int)
    have hml := mul_limb hg hdd ⟨Int.le_refl 0, by decide⟩ hc
    rw [Int.add_zero] at hml
    have w1 : IntKind.u64.wrap (rd u ((j + i : Nat) : Int)) = rd u ((j + i : Nat) : Int) := wu64 _ (by omega) (by omega)
    have w2 : IntKind.u64.wrap (rd d (i : Int)) = rd d (i : Int) := wu64 _ (by omega) (by omega)
    have w3 : IntKind.u64.wrap (g * rd d (i : Int)) = g * rd d (i : Int) := wu64 _ hml.2.2.1 (by omega)
    obtain ⟨t, et⟩ : ∃ t, c + g * rd d (i : Int) = t := ⟨_, rfl⟩
    have t0 : 0 ≤ t ∧ t < 18446744073709551616 := by omega
    have w4 : IntKind.u64.wrap t = t := wu64 _ t0.1 t0.2
    have w5 : Go.bits .and .u64 t 4294967295 = t % 4294967296 := and_low t0.1 t0.2
    have w6 : IntKind.u64.wrap (t % 4294967296 + b) = t % 4294967296 + b := wu64 _ (by omega) (by omega)
    have hdm := Int.mul_ediv_add_emod t 4294967296
    have q0 : 0 ≤ t / 4294967296 ∧ t / 4294967296 < 4294967296 := by omega
    have key : ∀ (v b' : Int), 0 ≤ v → v < 4294967296 → b' = 0 ∨ b' = 1 → v = rd u ((j + i : Nat) : Int) - (t % 4294967296 + b) + 4294967296 * b' → Ev (fun k => R1long.l3 k (n : Int) s (u.set (j + i) v) d o (j : Int) g (t / 4294967296) b' ((i + 1 : Nat) : Int)) R := by
      intro v b' hv0 hv1 hb' he
      refine ih (i + 1) (u.set (j + i) v) (t / 4294967296) b' c5 (lok_set hu hv0 hv1 _) (by rw [List.length_set]; exact lu) (by rw [lv_drop_set _ _ c6]; exact hz) q0 hb' ?_
      rw [lv_set _ _ _ c1, ← rd_nat, he, lv_take_rd d, c7, BP_succ, Int.mul_add, ← Int.mul_assoc (BP j), ← BP_add]
      exact rs1 hv et.symm hdm rfl
    by_cases hlt : rd u ((j + i : Nat) : Int) < t % 4294967296 + b
    · have w7 : IntKind.u64.wrap (rd u ((j + i : Nat) : Int) + 4294967296) = rd u ((j + i : Nat) : Int) + 4294967296 := wu64 _ (by omega) (by omega)
      have w8 : IntKind.u64.wrap (rd u ((j + i : Nat) : Int) + 4294967296 - (t % 4294967296 + b)) = rd u ((j + i : Nat) : Int) + 4294967296 - (t % 4294967296 + b) := wu64 _ (by omega) (by omega)
      have e9 : (rd u ((j + i : Nat) : Int) + 4294967296 - (t % 4294967296 + b)) % 4294967296 = rd u ((j + i : Nat) : Int) + 4294967296 - (t % 4294967296 + b) := by omega
      have h := key (rd u ((j + i : Nat) : Int) + 4294967296 - (t % 4294967296 + b)) 1 (by omega) (by omega) (Or.inr rfl) (by omega)
      refine Ev.succ (fun k => ?_) h
      simp only [R1long.l3]
      rw [if_pos (ix_lt c0), if_pos (ix_nn _), if_pos (ix_lt c4), ix_add c2, if_pos (ix_nn _), if_pos (ix_lt c1), w1, w2, w3, et, w4, w5, w6, if_pos hlt, w7, w8, e9, ix_succ c3, Int.toNat_natCast]
    · have w8 : IntKind.u64.wrap (rd u ((j + i : Nat) : Int) - (t % 4294967296 + b)) = rd u ((j + i : Nat) : Int) - (t % 4294967296 + b) := wu64 _ (by omega) (by omega)
      have e9 : (rd u ((j + i : Nat) : Int) - (t % 4294967296 + b)) % 4294967296 = rd u ((j + i : Nat) : Int) - (t % 4294967296 + b) := by omega
      have h := key (rd u ((j + i : Nat) : Int) - (t % 4294967296 + b)) 0 (by omega) (by omega) (Or.inl rfl) (by omega)
      refine Ev.succ (fun k => ?_) h
      simp only [R1long.l3]
      rw [if_pos (ix_lt c0), if_pos (ix_nn _), if_pos (ix_lt c4), ix_add c2, if_pos (ix_nn _), if_pos (ix_lt c1), w1, w2, w3, et, w4, w5, w6, if_neg hlt, w8, e9, ix_succ c3, Int.toNat_natCast]
def RC (s : Int) (u d : List Int) (n j L : Nat) (o : List Int) (R : List Int × List Int) : Prop :=
  ∀ u', lok u' → u'.length = L → lv u' = lv u % (BP j * lv d) → Ev (fun k => R1long.l1 k (n : Int) s u' d (o.set j (lv u / (BP j * lv d))) ((j : Int) - 1)) R
theorem rlong_j4 (s : Int) (u d : List Int) (n j L : Nat) (o : List Int) (R : List Int × List Int) (hu : lok u) (hd : lok d) (hn : d.length = n) (lu : u.length = L) (hL : j + n < L) (hL1 : L ≤ 1099511627776) (ho : j < o.length) (hz : lv (u.drop (j + n + 1)) = 0) (HC : RC s u d n j L o R)
    (g : Int) (hg : 0 ≤ g ∧ g < 4294967296) (h0 : lv u / (BP j * lv d) ≤ g) (h1 : g ≤ lv u / (BP j * lv d) + 1) : 0 < BP j * lv d → Ev (fun k => R1long.j4 k (n : Int) s u d o (j : Int) g) R := by
  intro hpos
  have k1 : j + n + 1 ≤ L := by omega
  have hA := lv_nonneg hu
  have hdm := Int.mul_ediv_add_emod (lv u) (BP j * lv d)
  have hm0 := Int.emod_nonneg (lv u) (show BP j * lv d ≠ 0 by omega)
  have hm1 := Int.emod_lt_of_pos (lv u) hpos
  have hq0 : 0 ≤ lv u / (BP j * lv d) := Int.ediv_nonneg hA (by omega)
  have h := rlong_l3 s d hd n hn j L hL hL1 o ho g (lv u) hA hg R (fun u' g' hg' hu' lu' hz' ⟨v, hv, e, e1, e2⟩ => by
    have b0 := lv_nonneg hu'
    have b1 : lv u' < BP (j + n + 1) := by
      have h2 := lv_split u' (j + n + 1) (by rw [lu']; exact k1)
      rw [hz', Int.mul_zero, Int.add_zero] at h2
      have h3 := lv_lt (lok_take hu' (j + n + 1))
      rw [List.length_take, lu', Nat.min_eq_left k1] at h3
      omega
    have key : g' = lv u / (BP j * lv d) ∧ v = 0 := by
      rcases hg' with rfl | hg'
      · have v0 := e1 rfl
        rw [v0, Int.mul_zero, Int.add_zero] at e
        have h2 : g' ≤ lv u / (BP j * lv d) := Int.le_ediv_of_mul_le hpos (by omega)
        exact ⟨by omega, v0⟩
      · have h3 := e2 hg'
        have h2 : lv u / (BP j * lv d) < g := Int.ediv_lt_of_lt_mul hpos (by omega)
        have h4 : g' = lv u / (BP j * lv d) := by omega
        refine ⟨h4, ?_⟩
        rcases hv with hv | hv
        · exact hv
        · rw [hv, Int.mul_one, h4, Int.mul_comm (lv u / (BP j * lv d))] at e
          omega
    obtain ⟨rfl, rfl⟩ := key
    rw [Int.mul_zero, Int.add_zero, Int.mul_comm] at e
    have h5 := HC u' hu' lu' (by omega)
    have e6 : lv u / (BP j * lv d) % 4294967296 = lv u / (BP j * lv d) := Int.emod_eq_of_lt hq0 (by omega)
    rw [e6]
    exact h5) n 0 u 0 0 (by omega) hu lu hz ⟨by decide, by decide⟩ (Or.inl rfl)
    (by rw [List.take_zero]; show lv u = lv u - g * (BP j * 0) + BP (j + 0) * 0; rw [Int.mul_zero, Int.mul_zero, Int.mul_zero]; omega)
  refine Ev.succ (fun k => ?_) h
  simp only [R1long.j4]
  rfl
theorem rlong_l2 (s : Int) (u d : List Int) (n j L : Nat) (o : List Int) (R : List Int × List Int) (hu : lok u) (hd : lok d) (hn : d.length = n + 2) (lu : u.length = L) (hL : j + (n + 2) < L) (hL1 : L ≤ 549755813888) (ho : j < o.length) (hz : lv (u.drop (j + (n + 2) + 1)) = 0) (hd1 : 2147483648 ≤ rd d ((n + 1 : Nat) : Int)) (hlt : lv u < (BP j * lv d) * 4294967296) (HC : RC s u d (n + 2) j L o R) (m : Nat) : ∀ (g rest : Int), g * rd d ((n + 1 : Nat) : Int) + rest = rd u ((j + (n + 2) : Nat) : Int) * 4294967296 + rd u ((j + (n + 1) : Nat) : Int) → 0 ≤ rest → rest < 4294967296 → 0 ≤ g → g < 9223372036854775808 → lv u / (BP j * lv d) ≤ g → 4294967296 ≤ rest + (m : Int) * 2147483648 →
    Ev (fun k => R1long.l2 k ((n + 2 : Nat) : Int) s u d o (j : Int) g rest) R := by
  have c1 : j + n + 1 = j + (n + 1) := by omega
  have k1 : n + 1 + 1 ≤ 4611686018427387904 := by omega
  have k3 : j + (n + 2) ≤ 4611686018427387904 := by omega
  have j1 : n + 1 < d.length := by omega
  have j2 : n < d.length := by omega
  have j3 : j + n < u.length := by omega
  have k5 : j + n ≤ u.length := by omega
  have k6 : n ≤ d.length := by omega
  have k7 : j + (n + 2) + 1 ≤ u.length := by omega
  have k2 : wrap64 (((n + 2 : Nat) : Int) - 2) = (n : Int) := by rw [w64 (by omega) (by omega)]; omega
  have k4 : wrap64 (((j + (n + 2) : Nat) : Int) - 2) = ((j + n : Nat) : Int) := by clear k2; rw [w64 (by omega) (by omega)]; omega
  have c2 : j + (n + 1) + 1 = j + (n + 2) := by omega
  have hE : BP j * lv d = (rd d ((n + 1 : Nat) : Int) * 4294967296 + rd d (n : Int)) * BP (j + n) + BP j * lv (d.take n) := by
    have h1 := lv_all d (n + 1) hn
    have h2 := lv_take_rd d n
    rw [h1, h2, BP_succ, BP_add]
    generalize rd d ((n + 1 : Nat) : Int) = x1
    generalize rd d (n : Int) = x2
    clear HC hlt
    grind
  have eu : lv u = ((rd u ((j + (n + 2) : Nat) : Int) * 4294967296 + rd u ((j + (n + 1) : Nat) : Int)) * 4294967296 + rd u ((j + n : Nat) : Int)) * BP (j + n) + lv (u.take (j + n)) := by
    have h0 := lv_split u (j + (n + 2) + 1) k7
    rw [hz, Int.mul_zero, Int.add_zero] at h0
    have h1 := lv_take_rd u (j + (n + 2))
    have h2 := lv_take_rd u (j + (n + 1))
    have h3 := lv_take_rd u (j + n)
    rw [c2] at h2
    rw [c1] at h3
    have b1 : BP (j + (n + 2)) = 4294967296 * (4294967296 * BP (j + n)) := by rw [← c2, BP_succ, ← c1, BP_succ]
    have b2 : BP (j + (n + 1)) = 4294967296 * BP (j + n) := by rw [← c1, BP_succ]
    rw [h0, h1, h2, h3, b1, b2]
    generalize rd u ((j + (n + 2) : Nat) : Int) = x1
    generalize rd u ((j + (n + 1) : Nat) : Int) = x2
    generalize rd u ((j + n : Nat) : Int) = x3
    clear HC hlt hz h0 h1 h2 h3 b1 b2
    grind
  have j4 := rlong_j4 s u d (n + 2) j L o R hu hd hn lu hL (by omega) ho hz HC
  obtain ⟨E, ed⟩ : ∃ E, BP j * lv d = E := ⟨_, rfl⟩
  rw [ed] at j4
  have eE := ed
  rw [ed] at hE hlt ⊢
  replace ed := hE
  have hP := BP_pos (j + n)
  have hPj := BP_pos j
  have r0 : 0 ≤ BP j * lv (d.take n) := Int.mul_nonneg (by omega) (lv_nonneg (lok_take hd n))
  have r1 : BP j * lv (d.take n) < BP (j + n) := by
    have h := lv_lt (lok_take hd n)
    rw [List.length_take, Nat.min_eq_left k6] at h
    rw [BP_add]
    exact Int.mul_lt_mul_of_pos_left h hPj
  have w0 := lv_nonneg (lok_take hu (j + n))
  have w1 := lv_lt (lok_take hu (j + n))
  rw [List.length_take, Nat.min_eq_left k5] at w1
  have b1 := rd_ok hd ((n + 1 : Nat) : Int)
  have b2 := rd_ok hd (n : Int)
  have b3 := rd_ok hu ((j + n : Nat) : Int)
  have b4 := rd_ok hu ((j + (n + 1) : Nat) : Int)
  have b5 := rd_ok hu ((j + (n + 2) : Nat) : Int)
  have hdpos : 0 < E := by
    rw [ed]
    have h1 : 0 < rd d ((n + 1 : Nat) : Int) * 4294967296 + rd d (n : Int) := by omega
    have := Int.mul_pos h1 hP
    omega
  have hqB : lv u / E < 4294967296 := Int.ediv_lt_of_lt_mul hdpos (by rw [Int.mul_comm]; exact hlt)
  have hq0 : 0 ≤ lv u / E := Int.ediv_nonneg (lv_nonneg hu) (by omega)
  have hqle : lv u / E * E ≤ lv u := Int.ediv_mul_le _ (by omega)
  -- the top of the dividend
  have htop : rd u ((j + (n + 2) : Nat) : Int) * 4294967296 + rd u ((j + (n + 1) : Nat) : Int) < (rd d ((n + 1 : Nat) : Int) + 1) * 4294967296 := by
    have h1 : (rd u ((j + (n + 2) : Nat) : Int) * 4294967296 + rd u ((j + (n + 1) : Nat) : Int)) * (4294967296 * BP (j + n)) < (rd d ((n + 1 : Nat) : Int) + 1) * 4294967296 * (4294967296 * BP (j + n)) := by
      have h2 : 0 ≤ rd u ((j + n : Nat) : Int) * BP (j + n) := Int.mul_nonneg b3.1 (by omega)
      have h3 : (rd d (n : Int) + 1) * BP (j + n) ≤ 4294967296 * BP (j + n) := Int.mul_le_mul_of_nonneg_right (by omega) (by omega)
      rw [ed, eu] at hlt
      revert hlt h2 h3
      generalize rd u ((j + (n + 2) : Nat) : Int) = x1
      generalize rd u ((j + (n + 1) : Nat) : Int) = x2
      generalize rd u ((j + n : Nat) : Int) = x3
      generalize rd d ((n + 1 : Nat) : Int) = y1
      generalize rd d (n : Int) = y2
      generalize BP j * lv (d.take n) = y3 at r1
      generalize lv (u.take (j + n)) = x4 at w0
      generalize BP (j + n) = P at r1
      intro hlt h2 h3
      clear HC ed eE eu hqle hq0 hqB
      grind
    exact mul_lt_cancel (Int.mul_pos (by decide) hP) h1
  have i1 : wrap64 (((n + 2 : Nat) : Int) - 1) = ((n + 1 : Nat) : Int) := ix_pred k1
  have i2 : wrap64 (((n + 2 : Nat) : Int) - 2) = (n : Int) := k2
  have i3 : wrap64 ((j : Int) + ((n + 2 : Nat) : Int)) = ((j + (n + 2) : Nat) : Int) := ix_add k3
  have i4 : wrap64 (((j + (n + 2) : Nat) : Int) - 2) = ((j + n : Nat) : Int) := k4
  have v1 : IntKind.u64.wrap (rd d ((n + 1 : Nat) : Int)) = rd d ((n + 1 : Nat) : Int) := wu64 _ (by omega) (by omega)
  have v2 : IntKind.u64.wrap (rd d (n : Int)) = rd d (n : Int) := wu64 _ (by omega) (by omega)
  have v3 : IntKind.u64.wrap (rd u ((j + n : Nat) : Int)) = rd u ((j + n : Nat) : Int) := wu64 _ (by omega) (by omega)
  -- a guess that is too great by some: one less
  have down : ∀ (g rest : Int), g * rd d ((n + 1 : Nat) : Int) + rest = rd u ((j + (n + 2) : Nat) : Int) * 4294967296 + rd u ((j + (n + 1) : Nat) : Int) → 0 ≤ rest → rest < 4294967296 → 1 ≤ g → g < 9223372036854775808 → lv u / E ≤ g - 1 →
      (rest + rd d ((n + 1 : Nat) : Int) < 4294967296 → Ev (fun k => R1long.l2 k ((n + 2 : Nat) : Int) s u d o (j : Int) (g - 1) (rest + rd d ((n + 1 : Nat) : Int))) R) →
      Ev (fun k => R1long.j3 k ((n + 2 : Nat) : Int) s u d o (j : Int) g rest true) R := by
    intro g rest he hr0 hr1 hg0 hg1 hq hrec
    have v4 : IntKind.u64.wrap (rest + rd d ((n + 1 : Nat) : Int)) = rest + rd d ((n + 1 : Nat) : Int) := wu64 _ (by omega) (by omega)
    have v5 : IntKind.u64.wrap (g - 1) = g - 1 := wu64 _ (by omega) (by omega)
    by_cases hbr : rest + rd d ((n + 1 : Nat) : Int) ≥ 4294967296
    · have he2 : (g - 1) * rd d ((n + 1 : Nat) : Int) + (rest + rd d ((n + 1 : Nat) : Int)) = rd u ((j + (n + 2) : Nat) : Int) * 4294967296 + rd u ((j + (n + 1) : Nat) : Int) := by rw [← he]; grind
      have hgB : g - 1 < 4294967296 := by
        have h1 : (g - 1) * rd d ((n + 1 : Nat) : Int) < 4294967296 * rd d ((n + 1 : Nat) : Int) := by omega
        exact Int.lt_of_mul_lt_mul_right h1 (by omega)
      have hkb := kn_break (B := 4294967296) (d2 := rd d (n : Int)) (rest := rest + rd d ((n + 1 : Nat) : Int)) (u2 := rd u ((j + n : Nat) : Int)) (guess := g - 1) (by decide) (by omega) (by omega) (by omega) hbr b3.1
      have hku := kn_up (B := 4294967296) (P := BP (j + n)) (d1 := rd d ((n + 1 : Nat) : Int)) (d2 := rd d (n : Int)) (r := BP j * lv (d.take n)) (u2 := rd u ((j + n : Nat) : Int)) (w := lv (u.take (j + n))) (guess := g - 1) (rest := rest + rd d ((n + 1 : Nat) : Int)) hP r1 r0 w0 (by omega) (by omega) b2.1 (by omega) (by decide) hkb
      rw [← ed, he2, ← eu] at hku
      have hup : g - 1 - 1 ≤ lv u / E := Int.le_ediv_of_mul_le hdpos hku
      refine Ev.succ (fun k => ?_) (j4 (g - 1) ⟨by omega, hgB⟩ hq (by omega) hdpos)
      simp only [R1long.j3]
      rw [if_pos trivial, i1, v1, v4, v5, if_pos (ix_nn _), if_pos (ix_lt j1), if_pos hbr]
    · refine Ev.succ (fun k => ?_) (hrec (by omega))
      simp only [R1long.j3]
      rw [if_pos trivial, i1, v1, v4, v5, if_pos (ix_nn _), if_pos (ix_lt j1), if_neg hbr]
  induction m with
  | zero => intro g rest he hr0 hr1 hg0 hg1 hq hm; omega
  | succ m ih =>
    intro g rest he hr0 hr1 hg0 hg1 hq hm
    have hrec : 1 ≤ g → lv u / E ≤ g - 1 → rest + rd d ((n + 1 : Nat) : Int) < 4294967296 → Ev (fun k => R1long.l2 k ((n + 2 : Nat) : Int) s u d o (j : Int) (g - 1) (rest + rd d ((n + 1 : Nat) : Int))) R := fun hg2 hq2 hr2 =>
      ih (g - 1) (rest + rd d ((n + 1 : Nat) : Int)) (by rw [← he]; grind) (by omega) hr2 (by omega) (by omega) hq2 (by
        have e : ((m + 1 : Nat) : Int) * 2147483648 = (m : Int) * 2147483648 + 2147483648 := by omega
        omega)
    by_cases hge : g ≥ 4294967296
    · refine Ev.succ (fun k => ?_) (down g rest he hr0 hr1 (by omega) hg1 (by omega) (hrec (by omega) (by omega)))
      simp only [R1long.l2]
      rw [if_pos hge]
    · have hgB : g < 4294967296 := by omega
      have hmul := mul_limb ⟨hg0, hgB⟩ b2 ⟨Int.le_refl 0, by decide⟩ ⟨Int.le_refl 0, by decide⟩
      have v4 : IntKind.u64.wrap (g * rd d (n : Int)) = g * rd d (n : Int) := wu64 _ (by omega) (by omega)
      have v5 : IntKind.u64.wrap (rest * 4294967296) = rest * 4294967296 := wu64 _ (by omega) (by omega)
      have v6 : Go.bits .or .u64 (rest * 4294967296) (rd u ((j + n : Nat) : Int)) = rest * 4294967296 + rd u ((j + n : Nat) : Int) := or64 hr0 hr1 b3.1 b3.2
      by_cases hc : g * rd d (n : Int) > rest * 4294967296 + rd u ((j + n : Nat) : Int)
      · have hg2 : 1 ≤ g := by
          refine Int.not_lt.1 fun h => ?_
          have : g = 0 := by omega
          rw [this, Int.zero_mul] at hc
          omega
        have hD : 0 ≤ (rd d ((n + 1 : Nat) : Int) * 4294967296 + rd d (n : Int)) * BP (j + n) + BP j * lv (d.take n) := by rw [← ed]; omega
        have hq2 : lv u / E ≤ g - 1 := kn_down (B := 4294967296) (P := BP (j + n)) (d1 := rd d ((n + 1 : Nat) : Int)) (d2 := rd d (n : Int)) (r := BP j * lv (d.take n)) (u2 := rd u ((j + n : Nat) : Int)) (w := lv (u.take (j + n))) (rest := rest) hP r0 w1 hg0 hD
          (by rw [← ed, he, ← eu]; exact hqle) hc
        refine Ev.succ (fun k => ?_) (down g rest he hr0 hr1 hg2 hg1 hq2 (hrec hg2 hq2))
        simp only [R1long.l2]
        rw [if_neg hge, i2, i3, i4, v2, v3, v4, v5, v6, if_pos (ix_nn _), if_pos (ix_lt j2), if_pos (ix_nn _), if_pos (ix_lt j3), decide_eq_true hc]
      · have hku := kn_up (B := 4294967296) (P := BP (j + n)) (d1 := rd d ((n + 1 : Nat) : Int)) (d2 := rd d (n : Int)) (r := BP j * lv (d.take n)) (u2 := rd u ((j + n : Nat) : Int)) (w := lv (u.take (j + n))) (guess := g) (rest := rest) hP r1 r0 w0 hg0 (by omega) b2.1 (by omega) (by decide) (by omega)
        rw [← ed, he, ← eu] at hku
        have hup : g - 1 ≤ lv u / E := Int.le_ediv_of_mul_le hdpos hku
        refine Ev.succ (h := fun k => R1long.j3 k ((n + 2 : Nat) : Int) s u d o (j : Int) g rest false) (fun k => ?_) (Ev.succ (fun k => ?_) (j4 g ⟨hg0, hgB⟩ hq (by omega) hdpos))
        · simp only [R1long.l2]
          rw [if_neg hge, i2, i3, i4, v2, v3, v4, v5, v6, if_pos (ix_nn _), if_pos (ix_lt j2), if_pos (ix_nn _), if_pos (ix_lt j3), decide_eq_false hc]
        · simp only [R1long.j3]
          rw [if_neg (by decide)]
theorem rs2 {o x B P q m r : Int} (hv : o = x * P) (e : 4294967296 * q + m = r * P) : o + B * m + 4294967296 * B * q = (x + B * r) * P := by
  have : m = r * P - 4294967296 * q := by omega
  rw [hv, this]; grind
theorem shifted_l0 (a : List Int) (ha : lok a) (la : a.length ≤ 1099511627776) (s : Nat) (hs : s ≤ 31) (d : Nat) : ∀ (i : Nat) (o : List Int), i + d = a.length → lok o → o.length = a.length + 1 →
    lv o = lv (a.take i) * 2 ^ s → ∃ z, Ev (fun k => R1shifted.l0 k a (s : Int) o (i : Int)) z ∧ lok z ∧ z.length = a.length + 1 ∧ lv z = lv a * 2 ^ s := by
  induction d with
  | zero =>
    intro i o hi ho lo hv
    have hi' : i = a.length := by omega
    subst hi'
    rw [List.take_of_length_le (Nat.le_refl _)] at hv
    refine ⟨o, ?_, ho, lo, hv⟩
    refine Ev.succ (h := fun k => some o) (fun k => ?_) (Ev.of fun _ => rfl)
    simp only [R1shifted.l0]
    rw [if_neg (ix_nlt (Nat.le_refl _))]
  | succ d ih =>
    intro i o hi ho lo hv
    have c1 : i < a.length := by omega
    have c2 : i < o.length := by omega
    have c3 : i ≤ 4611686018427387904 := by omega
    have c4 : i + 1 + d = a.length := by omega
    have c5 : (s : Int) ≤ 64 := by omega
    have c7 : i + 1 < o.length := by omega
    have hal := rd_ok ha (i : Int)
    have hP := pow2_pos s
    have hP1 := pow2_le31 hs
    have hsh := shl_limb hal hP hP1
    have hlt : lv o < BP i * 2 ^ s := by
      rw [hv]
      have h1 := lv_lt (lok_take ha i)
      rw [List.length_take, Nat.min_eq_left (Nat.le_of_lt c1)] at h1
      exact Int.mul_lt_mul_of_pos_right h1 hP
    have hr : 0 ≤ rd o (i : Int) ∧ rd o (i : Int) < 2 ^ s := ⟨(rd_ok ho _).1, rd_lt_of ho i _ hlt⟩
    obtain ⟨hor, hor0, hor1⟩ := or_shl hs hr hal
    have hz : rd o ((i + 1 : Nat) : Int) = 0 := by
      have h1 : lv o < BP (i + 1) * 1 := by
        rw [Int.mul_one, BP_succ]
        have h2 : BP i * 2 ^ s ≤ BP i * 4294967296 := Int.mul_le_mul_of_nonneg_left (by omega) (Int.le_of_lt (BP_pos i))
        omega
      have h2 := rd_lt_of ho (i + 1) 1 h1
      have h3 := (rd_ok ho ((i + 1 : Nat) : Int)).1
      omega
    have w1 : IntKind.u64.wrap (rd a (i : Int)) = rd a (i : Int) := wu64 _ (by omega) (by omega)
    have w2 : IntKind.u64.wrap (rd a (i : Int) * 2 ^ s) = rd a (i : Int) * 2 ^ s := wu64 _ hsh.1 hsh.2.1
    have hy : lv (o.set i (rd o (i : Int) + rd a (i : Int) * 2 ^ s % 4294967296)) = lv o + BP i * (rd a (i : Int) * 2 ^ s % 4294967296) := by
      rw [lv_set _ _ _ c2, ← rd_nat]
      grind
    have hyok : lok (o.set i (rd o (i : Int) + rd a (i : Int) * 2 ^ s % 4294967296)) := lok_set ho hor0 hor1 _
    have hyz : rd (o.set i (rd o (i : Int) + rd a (i : Int) * 2 ^ s % 4294967296)) ((i + 1 : Nat) : Int) = 0 := by rw [rd_set_ne _ _ (by omega)]; exact hz
    have hdm := Int.mul_ediv_add_emod (rd a (i : Int) * 2 ^ s) 4294967296
    have hq0 : 0 ≤ rd a (i : Int) * 2 ^ s / 4294967296 := Int.ediv_nonneg hsh.1 (by decide)
    have hq1 : rd a (i : Int) * 2 ^ s / 4294967296 < 4294967296 := by omega
    have c6 : i + 1 < (o.set i (rd o (i : Int) + rd a (i : Int) * 2 ^ s % 4294967296)).length := by rw [List.length_set]; exact c7
    have w3 : rd a (i : Int) * 2 ^ s / 4294967296 % 4294967296 = rd a (i : Int) * 2 ^ s / 4294967296 := Int.emod_eq_of_lt hq0 hq1
    obtain ⟨z, hz1, hz2, hz3, hz4⟩ := ih (i + 1) ((o.set i (rd o (i : Int) + rd a (i : Int) * 2 ^ s % 4294967296)).set (i + 1) (rd a (i : Int) * 2 ^ s / 4294967296)) c4
      (lok_set hyok hq0 hq1 _) (by rw [List.length_set, List.length_set]; exact lo)
      (by
        rw [lv_set _ _ _ c6, ← rd_nat, hyz, Int.sub_zero, hy, lv_take_rd a, BP_succ]
        exact rs2 hv hdm)
    refine ⟨z, Ev.succ (fun k => ?_) hz1, hz2, hz3, hz4⟩
    simp only [R1shifted.l0]
    rw [if_pos (ix_lt c1), if_pos (ix_nn _), if_pos (ix_nn _), if_pos c5, if_pos (ix_lt c2), ix_succ c3, if_pos (ix_nn _), if_pos (ix_lt c7), Int.toNat_natCast, Int.toNat_natCast, Int.toNat_natCast, w1, w2, hor, w3]
theorem shifted_ev {a : List Int} (ha : lok a) (la : a.length ≤ 549755813888) {s : Nat} (hs : s ≤ 31) :
    ∃ z, Ev (fun k => R1shifted.f k a (s : Int)) z ∧ lok z ∧ z.length = a.length + 1 ∧ lv z = lv a * 2 ^ s := by
  obtain ⟨z, h1, h2⟩ := shifted_l0 a ha (by omega) s hs a.length 0 (List.replicate (a.length + 1) 0) (by omega) (lok_replicate _) List.length_replicate (by
    rw [lv_replicate, List.take_zero]; show (0 : Int) = 0 * _; rw [Int.zero_mul])
  refine ⟨z, Ev.congr (fun k => ?_) h1, h2⟩
  have c1 : a.length ≤ 4611686018427387904 := by omega
  have c2 : a.length + 1 ≤ 70368744177664 := by omega
  unfold R1shifted.f
  rw [ix_succ c1, if_pos (ix_nn _), Int.toNat_natCast, if_pos c2]
  rfl
theorem rlong_l5 (u : List Int) (hu : lok u) (n : Nat) (lu : n + 1 ≤ u.length) (hn : n ≤ 1099511627776) (s : Nat) (hs : s ≤ 31) (o : List Int) (ho : lok o) (lo : o.length ≤ 70368744177664) (d : Nat) : ∀ (i : Nat) (r : List Int), i + d = n → lok r → r.length = n →
    lv (r.take i) = lv u / 2 ^ s % BP i → Ev (fun k => R1long.l5 k (n : Int) (s : Int) u o r (i : Int)) (lm (lv o).toNat, lm (lv u / 2 ^ s % BP n).toNat) := by
  have hP := pow2_pos s
  have hP1 := pow2_le31 hs
  have hPd := pow2_dvd hs
  induction d with
  | zero =>
    intro i r hi hr lr hv
    have hi' : i = n := by omega
    subst hi'
    rw [List.take_of_length_le (Nat.le_of_eq lr)] at hv
    have lr2 : r.length ≤ 70368744177664 := by omega
    have h1 := strip_ev ho lo
    have h2 := strip_ev hr lr2
    rw [hv] at h2
    refine Ev.succ (h := fun k => (R1strip.f k o).bind fun t => (R1strip.f k r).bind fun t2 => some (t, t2)) (fun k => ?_) (Ev.bind h1 (Ev.bind h2 (Ev.of fun _ => rfl)))
    simp only [R1long.l5]
    rw [if_neg (ix_nlt (Nat.le_refl _))]
  | succ d ih =>
    intro i r hi hr lr hv
    have c0 : i < n := by omega
    have c1 : i < u.length := by omega
    have c2 : i < r.length := by omega
    have c3 : i ≤ 4611686018427387904 := by omega
    have c4 : i + 1 + d = n := by omega
    have c5 : (s : Int) ≤ 64 := by omega
    have c6 : i + 1 < u.length := by omega
    have hal := rd_ok hu (i : Int)
    have hal1 := rd_ok hu ((i + 1 : Nat) : Int)
    have hdig : lv u / 2 ^ s / BP i % 4294967296 = (rd u (i : Int) + rd u ((i + 1 : Nat) : Int) * 4294967296) / 2 ^ s % 4294967296 := by
      rw [Int.ediv_ediv_of_nonneg (by omega), Int.mul_comm, ← Int.ediv_ediv_of_nonneg (Int.le_of_lt (BP_pos i)), lv_div hu i c1, lv_drop_rd (i + 1) c6]
      exact unshift_limb hP hPd
    have q0 : 0 ≤ (rd u (i : Int) + rd u ((i + 1 : Nat) : Int) * 4294967296) / 2 ^ s % 4294967296 := Int.emod_nonneg _ (by decide)
    have q1 : (rd u (i : Int) + rd u ((i + 1 : Nat) : Int) * 4294967296) / 2 ^ s % 4294967296 < 4294967296 := Int.emod_lt_of_pos _ (by decide)
    have h2 := ih (i + 1) (r.set i ((rd u (i : Int) + rd u ((i + 1 : Nat) : Int) * 4294967296) / 2 ^ s % 4294967296)) c4 (lok_set hr q0 q1 _) (by rw [List.length_set]; exact lr)
      (by rw [lv_set_take _ _ _ c2, mod_BP_succ, hdig, hv])
    have w1 : IntKind.u64.wrap (rd u (i : Int)) = rd u (i : Int) := wu64 _ (by omega) (by omega)
    have w2 : IntKind.u64.wrap (rd u ((i + 1 : Nat) : Int)) = rd u ((i + 1 : Nat) : Int) := wu64 _ (by omega) (by omega)
    have w3 : IntKind.u64.wrap (rd u ((i + 1 : Nat) : Int) * 4294967296) = rd u ((i + 1 : Nat) : Int) * 4294967296 := wu64 _ (by omega) (by omega)
    have w4 : Go.bits .or .u64 (rd u ((i + 1 : Nat) : Int) * 4294967296) (rd u (i : Int)) = rd u (i : Int) + rd u ((i + 1 : Nat) : Int) * 4294967296 := by
      rw [or64 hal1.1 hal1.2 hal.1 hal.2, Int.add_comm]
    refine Ev.succ (fun k => ?_) h2
    simp only [R1long.l5]
    rw [if_pos (ix_lt c0), ix_succ c3, if_pos (ix_nn _), if_pos (ix_lt c6), if_pos (ix_nn _), if_pos (ix_lt c1), if_pos (ix_nn _), if_pos c5, if_pos (ix_lt c2), w1, w2, w3, w4, Int.toNat_natCast, Int.toNat_natCast]
theorem E_form {d : List Int} {n : Nat} (hn : d.length = n + 2) (j : Nat) : BP j * lv d = (rd d ((n + 1 : Nat) : Int) * 4294967296 + rd d (n : Int)) * BP (j + n) + BP j * lv (d.take n) := by
  have h1 := lv_all d (n + 1) hn
  have h2 := lv_take_rd d n
  rw [h1, h2, BP_succ, BP_add]
  generalize rd d ((n + 1 : Nat) : Int) = x1
  generalize rd d (n : Int) = x2
  grind
theorem u_form {u : List Int} {n j : Nat} (k7 : j + (n + 2) + 1 ≤ u.length) (hz : lv (u.drop (j + (n + 2) + 1)) = 0) :
    lv u = ((rd u ((j + (n + 2) : Nat) : Int) * 4294967296 + rd u ((j + (n + 1) : Nat) : Int)) * 4294967296 + rd u ((j + n : Nat) : Int)) * BP (j + n) + lv (u.take (j + n)) := by
  have c1 : j + n + 1 = j + (n + 1) := by omega
  have c2 : j + (n + 1) + 1 = j + (n + 2) := by omega
  have h0 := lv_split u (j + (n + 2) + 1) k7
  rw [hz, Int.mul_zero, Int.add_zero] at h0
  have h1 := lv_take_rd u (j + (n + 2))
  have h2 := lv_take_rd u (j + (n + 1))
  have h3 := lv_take_rd u (j + n)
  rw [c2] at h2
  rw [c1] at h3
  have b1 : BP (j + (n + 2)) = 4294967296 * (4294967296 * BP (j + n)) := by rw [← c2, BP_succ, ← c1, BP_succ]
  have b2 : BP (j + (n + 1)) = 4294967296 * BP (j + n) := by rw [← c1, BP_succ]
  rw [h0, h1, h2, h3, b1, b2]
  generalize rd u ((j + (n + 2) : Nat) : Int) = x1
  generalize rd u ((j + (n + 1) : Nat) : Int) = x2
  generalize rd u ((j + n : Nat) : Int) = x3
  clear hz h0 h1 h2 h3 b1 b2
  grind
theorem rg10 {E B U q m h w : Int} (hB : B = 4294967296 * E) (hU : U = B * h + w) (e : E * q + m = w) : U = E * (q + 4294967296 * h) + m := by
  rw [hU, hB, ← e]; grind
theorem rlong_l1 (s : Nat) (hs : s ≤ 31) (d : List Int) (hd : lok d) (n : Nat) (hn : d.length = n + 2) (hd1 : 2147483648 ≤ rd d ((n + 1 : Nat) : Int)) (U : Int) (q : Nat) (hq1 : q + (n + 2) ≤ 549755813888) (j : Nat) : ∀ (u o : List Int), j ≤ q → lok u → u.length = q + (n + 2) → lok o → o.length = q → 0 < q →
    lv u < BP j * lv d → U = BP j * lv d * lv (o.drop j) + lv u →
    Ev (fun k => R1long.l1 k ((n + 2 : Nat) : Int) (s : Int) u d o ((j : Int) - 1)) (lm (U / lv d).toNat, lm (U % lv d / 2 ^ s).toNat) := by
  have hdB := lv_lt hd
  rw [hn] at hdB
  have hb1 := rd_ok hd ((n + 1 : Nat) : Int)
  have hdpos : 0 < lv d := by
    have h2 := lv_ge hd (n + 1)
    have h3 := Int.mul_pos (BP_pos (n + 1)) (show 0 < rd d ((n + 1 : Nat) : Int) by omega)
    omega
  induction j with
  | zero =>
    intro u o _ hu lu ho lo hq hlt hU
    rw [List.drop_zero, BP_zero, Int.one_mul] at hU
    rw [BP_zero, Int.one_mul] at hlt
    have hu0 := lv_nonneg hu
    have e1 : U / lv d = lv o := by
      rw [hU, Int.add_comm, Int.add_mul_ediv_left _ _ (by omega), Int.ediv_eq_zero_of_lt hu0 hlt, Int.zero_add]
    have e2 : U % lv d = lv u := by
      rw [hU, Int.add_comm, Int.add_mul_emod_self_left, Int.emod_eq_of_lt hu0 hlt]
    have k1 : n + 2 + 1 ≤ u.length := by omega
    have k2 : n + 2 ≤ 1099511627776 := by omega
    have k3 : o.length ≤ 70368744177664 := by omega
    have k4 : n + 2 ≤ 70368744177664 := by omega
    have hP := pow2_pos s
    have e3 : lv u / 2 ^ s % BP (n + 2) = lv u / 2 ^ s := by
      have h1 : 0 ≤ lv u / 2 ^ s := Int.ediv_nonneg hu0 (by omega)
      have h3 : lv u / 2 ^ s ≤ lv u := Int.ediv_le_self _ hu0
      exact Int.emod_eq_of_lt h1 (Int.lt_of_le_of_lt h3 (Int.lt_trans hlt hdB))
    have h := rlong_l5 u hu (n + 2) k1 k2 s hs o ho k3 (n + 2) 0 (List.replicate (n + 2) 0) (Nat.zero_add _) (lok_replicate _) List.length_replicate (by rw [List.take_zero, BP_zero, Int.emod_one]; rfl)
    rw [e1, e2]
    rw [e3] at h
    refine Ev.succ (fun k => ?_) h
    simp only [R1long.l1]
    rw [if_neg (by decide), if_pos (ix_nn _), Int.toNat_natCast, if_pos k4]
    rfl
  | succ j ih =>
    intro u o hj hu lu ho lo hq hlt hU
    have c0 : j ≤ q := by omega
    have c1 : j + (n + 2) < q + (n + 2) := by omega
    have c3 : j < o.length := by omega
    have k7 : j + (n + 2) + 1 ≤ u.length := by omega
    have k1 : n + 1 + 1 ≤ 4611686018427387904 := by omega
    have k3 : j + (n + 2) ≤ 4611686018427387904 := by omega
    have k4 : j + (n + 1) + 1 ≤ 4611686018427387904 := by omega
    have k5 : j + (n + 1) + 1 = j + (n + 2) := by omega
    have j1 : n + 1 < d.length := by omega
    have j2 : j + (n + 2) < u.length := by omega
    have j3 : j + (n + 1) < u.length := by omega
    have j4 : j + n ≤ u.length := by omega
    have j5 : n ≤ d.length := by omega
    have i0 : ((j + 1 : Nat) : Int) - 1 = (j : Int) := by omega
    have hPj := BP_pos j
    have hB1 : BP (j + 1) = 4294967296 * BP j := BP_succ j
    have hB2 : BP (j + 1) * lv d = 4294967296 * (BP j * lv d) := by rw [hB1, Int.mul_assoc]
    have hu0 := lv_nonneg hu
    have hz : lv (u.drop (j + (n + 2) + 1)) = 0 := by
      have h1 := lv_split u (j + (n + 2) + 1) k7
      have h2 := lv_nonneg (lok_take hu (j + (n + 2) + 1))
      have h3 := lv_nonneg (lok_drop hu (j + (n + 2) + 1))
      have h4 : BP (j + 1) * lv d ≤ BP (j + 1) * BP (n + 2) := Int.mul_le_mul_of_nonneg_left (Int.le_of_lt hdB) (Int.le_of_lt (BP_pos _))
      rw [← BP_add, show j + 1 + (n + 2) = j + (n + 2) + 1 by omega] at h4
      have h5 : BP (j + (n + 2) + 1) * lv (u.drop (j + (n + 2) + 1)) < BP (j + (n + 2) + 1) * 1 := by rw [Int.mul_one]; omega
      have h6 := BP_inj_lt (BP_pos _) h5
      omega
    have hE0 : 0 < BP j * lv d := Int.mul_pos hPj hdpos
    have hlt2 : lv u < (BP j * lv d) * 4294967296 := by rw [Int.mul_comm (BP j * lv d), ← hB2]; exact hlt
    have hqE0 : 0 ≤ lv u / (BP j * lv d) := Int.ediv_nonneg hu0 (Int.le_of_lt hE0)
    have hqE1 : lv u / (BP j * lv d) < 4294967296 := Int.ediv_lt_of_lt_mul hE0 (by rw [Int.mul_comm]; exact hlt2)
    have hRC : RC (s : Int) u d (n + 2) j (q + (n + 2)) o (lm (U / lv d).toNat, lm (U % lv d / 2 ^ s).toNat) := by
      intro u' hu' lu' hv'
      refine ih u' (o.set j (lv u / (BP j * lv d))) c0 hu' lu' (lok_set ho hqE0 hqE1 _) (by rw [List.length_set]; exact lo) hq (by rw [hv']; exact Int.emod_lt_of_pos _ hE0) ?_
      have e2 : lv ((o.set j (lv u / (BP j * lv d))).drop j) = lv u / (BP j * lv d) + 4294967296 * lv (o.drop (j + 1)) := by
        have c4 : j < (o.set j (lv u / (BP j * lv d))).length := by rw [List.length_set]; exact c3
        rw [List.drop_eq_getElem_cons c4, List.getElem_set_self, List.drop_set_of_lt (Nat.lt_succ_self j), lv]
      rw [e2, hv']
      exact rg10 hB2 hU (Int.mul_ediv_add_emod _ _)
    have b4 := rd_ok hu ((j + (n + 1) : Nat) : Int)
    have b5 := rd_ok hu ((j + (n + 2) : Nat) : Int)
    have b3 := rd_ok hu ((j + n : Nat) : Int)
    have b2 := rd_ok hd (n : Int)
    have hdd : (0 : Int) < rd d ((n + 1 : Nat) : Int) := by omega
    obtain ⟨T, hT⟩ : ∃ T, rd u ((j + (n + 2) : Nat) : Int) * 4294967296 + rd u ((j + (n + 1) : Nat) : Int) = T := ⟨_, rfl⟩
    have T0 : 0 ≤ T ∧ T < 18446744073709551616 := by omega
    have hdm := Int.mul_ediv_add_emod T (rd d ((n + 1 : Nat) : Int))
    have hm0 := Int.emod_nonneg T (show rd d ((n + 1 : Nat) : Int) ≠ 0 by omega)
    have hm1 := Int.emod_lt_of_pos T hdd
    have hg0 : 0 ≤ T / rd d ((n + 1 : Nat) : Int) := Int.ediv_nonneg T0.1 (Int.le_of_lt hdd)
    have hg1 : T / rd d ((n + 1 : Nat) : Int) < 9223372036854775808 := Int.ediv_lt_of_lt_mul hdd (by omega)
    have hqg : lv u / (BP j * lv d) ≤ T / rd d ((n + 1 : Nat) : Int) := by
      have hE := E_form hn j
      have eu := u_form k7 hz
      rw [hT] at eu
      have w1 := lv_lt (lok_take hu (j + n))
      rw [List.length_take, Nat.min_eq_left j4] at w1
      have r0 : 0 ≤ BP j * lv (d.take n) := Int.mul_nonneg (Int.le_of_lt hPj) (lv_nonneg (lok_take hd n))
      have hqle : lv u / (BP j * lv d) * (BP j * lv d) ≤ lv u := Int.ediv_mul_le _ (by omega)
      have h := kn_top (B := 4294967296) (P := BP (j + n)) (d1 := rd d ((n + 1 : Nat) : Int)) (d2 := rd d (n : Int)) (r := BP j * lv (d.take n)) (T := T) (u2 := rd u ((j + n : Nat) : Int)) (w := lv (u.take (j + n))) (q := lv u / (BP j * lv d)) (by decide) (BP_pos _) b2.1 r0 b3.2 w1 hqE0
        (by rw [← hE, ← eu]; exact hqle)
      exact Int.le_ediv_of_mul_le hdd h
    have h := rlong_l2 (s : Int) u d n j (q + (n + 2)) o _ hu hd hn lu c1 hq1 c3 hz hd1 hlt2 hRC 2 (T / rd d ((n + 1 : Nat) : Int)) (T % rd d ((n + 1 : Nat) : Int)) (by rw [hT, Int.mul_comm]; exact hdm) hm0 (by omega) hg0 hg1 hqg (by omega)
    have v1 : IntKind.u64.wrap (rd d ((n + 1 : Nat) : Int)) = rd d ((n + 1 : Nat) : Int) := wu64 _ (by omega) (by omega)
    have v2 : IntKind.u64.wrap (rd u ((j + (n + 1) : Nat) : Int)) = rd u ((j + (n + 1) : Nat) : Int) := wu64 _ (by omega) (by omega)
    have v3 : IntKind.u64.wrap (rd u ((j + (n + 2) : Nat) : Int)) = rd u ((j + (n + 2) : Nat) : Int) := wu64 _ (by omega) (by omega)
    have v4 : IntKind.u64.wrap (rd u ((j + (n + 2) : Nat) : Int) * 4294967296) = rd u ((j + (n + 2) : Nat) : Int) * 4294967296 := wu64 _ (by omega) (by omega)
    have v5 : Go.bits .or .u64 (rd u ((j + (n + 2) : Nat) : Int) * 4294967296) (rd u ((j + (n + 1) : Nat) : Int)) = T := by rw [← hT]; exact or64 b5.1 b5.2 b4.1 b4.2
    have v6 : Int.tdiv T (rd d ((n + 1 : Nat) : Int)) = T / rd d ((n + 1 : Nat) : Int) := Int.tdiv_eq_ediv_of_nonneg T0.1
    have v7 : Int.tmod T (rd d ((n + 1 : Nat) : Int)) = T % rd d ((n + 1 : Nat) : Int) := Int.tmod_eq_emod_of_nonneg T0.1
    have v8 := wu64 (T / rd d ((n + 1 : Nat) : Int)) hg0 (Int.lt_trans hg1 (by decide))
    have hne : ¬ rd d ((n + 1 : Nat) : Int) = 0 := by omega
    have i1 : wrap64 (((n + 2 : Nat) : Int) - 1) = ((n + 1 : Nat) : Int) := ix_pred k1
    have i3 : wrap64 ((j : Int) + ((n + 2 : Nat) : Int)) = ((j + (n + 2) : Nat) : Int) := ix_add k3
    have i4 : wrap64 (((j + (n + 2) : Nat) : Int) - 1) = ((j + (n + 1) : Nat) : Int) := by rw [← k5]; exact ix_pred k4
    refine Ev.succ (fun k => ?_) h
    simp only [R1long.l1]
    rw [i0, if_pos (ix_nn _), i3, i4, i1, if_pos (ix_nn _), if_pos (ix_lt j2), if_pos (ix_nn _), if_pos (ix_lt j3), if_pos (ix_nn _), if_pos (ix_lt j1), v1, if_neg hne, v2, v3, v4, v5, v6, v7, v8]
theorem rlong_l0 (x y : List Int) (n : Nat) (hn : y.length = n + 2) (hn1 : n ≤ 4611686018427387000) (hy : lok y) (s : Nat) (hs : s ≤ 31) (hs1 : 2147483648 ≤ rd y ((n + 1 : Nat) : Int) * 2 ^ s) (hs2 : rd y ((n + 1 : Nat) : Int) * 2 ^ s < 4294967296) (R : List Int × List Int)
    (H : Ev (fun k => (R1shifted.f k x (s : Int)).bind fun t364 => ((R1shifted.f k y (s : Int)).bind fun t367 => (if 0 ≤ ((n + 2 : Nat) : Int) then (if ((n + 2 : Nat) : Int) ≤ (t367.length : Int) then (if 0 ≤ (wrap64 ((wrap64 ((x.length : Int) - ((n + 2 : Nat) : Int))) + 1)) then (if (wrap64 ((wrap64 ((x.length : Int) - ((n + 2 : Nat) : Int))) + 1) : Int).toNat ≤ 70368744177664 then (R1long.l1 k ((n + 2 : Nat) : Int) (s : Int) t364 (t367.take (((n + 2 : Nat) : Int) : Int).toNat) (List.replicate (wrap64 ((wrap64 ((x.length : Int) - ((n + 2 : Nat) : Int))) + 1) : Int).toNat 0) (wrap64 ((x.length : Int) - ((n + 2 : Nat) : Int)))) else (none)) else (none)) else (none)) else (none)))) R)
    (m : Nat) : ∀ t : Nat, t + m = s → Ev (fun k => R1long.l0 k x y ((n + 2 : Nat) : Int) (t : Int)) R := by
  have k1 : n + 1 + 1 ≤ 4611686018427387904 := by omega
  have j1 : n + 1 < y.length := by omega
  have hr := rd_ok hy ((n + 1 : Nat) : Int)
  induction m with
  | zero =>
    intro t ht
    have ht' : t = s := by omega
    subst ht'
    have c1 : (t : Int) ≤ 32 := by omega
    have hP := pow2_pos t
    have e : rd y ((n + 1 : Nat) : Int) * 2 ^ t % 4294967296 = rd y ((n + 1 : Nat) : Int) * 2 ^ t := Int.emod_eq_of_lt (Int.mul_nonneg hr.1 (Int.le_of_lt hP)) hs2
    refine Ev.succ (fun k => ?_) H
    simp only [R1long.l0]
    rw [ix_pred k1, if_pos (ix_nn _), if_pos (ix_lt j1), if_pos (ix_nn _), if_pos c1, Int.toNat_natCast, e, if_neg (Int.not_lt.2 hs1)]
  | succ m ih =>
    intro t ht
    have c0 : t + 1 + m = s := by omega
    have c1 : (t : Int) ≤ 32 := by omega
    have c2 : (t : Int) + 1 < 18446744073709551616 := by omega
    have c3 : (0 : Int) ≤ (t : Int) + 1 := by omega
    have c4 : t + 1 ≤ s := by omega
    have hP := pow2_pos t
    have h2 : rd y ((n + 1 : Nat) : Int) * 2 ^ t * 2 ≤ rd y ((n + 1 : Nat) : Int) * 2 ^ s := by
      have h3 : (2 : Int) ^ (t + 1) ≤ 2 ^ s := by
        have h4 := Nat.pow_le_pow_right (show 0 < 2 by decide) c4
        have h5 := Int.ofNat_le.2 h4
        rw [Int.natCast_pow, Int.natCast_pow] at h5
        exact h5
      rw [Int.pow_succ] at h3
      rw [Int.mul_assoc]
      exact Int.mul_le_mul_of_nonneg_left h3 hr.1
    have h0 : 0 ≤ rd y ((n + 1 : Nat) : Int) * 2 ^ t := Int.mul_nonneg hr.1 (Int.le_of_lt hP)
    have h1 : rd y ((n + 1 : Nat) : Int) * 2 ^ t < 2147483648 := by omega
    have e : rd y ((n + 1 : Nat) : Int) * 2 ^ t % 4294967296 = rd y ((n + 1 : Nat) : Int) * 2 ^ t := Int.emod_eq_of_lt h0 (by omega)
    have w1 : IntKind.u64.wrap ((t : Int) + 1) = ((t + 1 : Nat) : Int) := wu64 _ c3 c2
    refine Ev.succ (fun k => ?_) (ih (t + 1) c0)
    simp only [R1long.l0]
    rw [ix_pred k1, if_pos (ix_nn _), if_pos (ix_lt j1), if_pos (ix_nn _), if_pos c1, Int.toNat_natCast, e, if_pos h1, w1]
theorem long_ev (a b : Nat) (hab : b ≤ a) (la : (lm a).length ≤ 274877906944) (n : Nat) (hn : (lm b).length = n + 2) : Ev (fun k => R1long.f k (lm a) (lm b)) (lm (a / b), lm (a % b)) := by
  have ca := lm_can a
  have cb := lm_can b
  have va := lm_lv a
  have vb := lm_lv b
  have hbn : lm b ≠ [] := fun h => by rw [h] at hn; cases hn
  have hlen : (lm b).length ≤ (lm a).length := lm_len_le hab
  obtain ⟨q, hq⟩ : ∃ q, (lm a).length + 1 = q + (n + 2) := ⟨(lm a).length + 1 - (n + 2), by omega⟩
  have k0 : n ≤ 4611686018427387000 := by omega
  have k3 : (lm a).length ≤ 4611686018427387904 := by omega
  have k4 : n + 2 ≤ (lm a).length := by omega
  have k5 : (lm a).length - (n + 2) ≤ 4611686018427387904 := by omega
  have k6 : (lm a).length - (n + 2) + 1 = q := by omega
  have k61 : (((lm a).length - (n + 2) : Nat) : Int) = (q : Int) - 1 := by omega
  have k9 : q ≤ 70368744177664 := by omega
  have k10 : (lm b).length ≤ 549755813888 := by omega
  have k11 : (lm a).length ≤ 549755813888 := by omega
  have k13 : q + (n + 2) ≤ 549755813888 := by omega
  have k16 : n + 1 ≤ (lm b).length := by omega
  have k17 : n + 1 + q = (lm a).length := by omega
  have k18 : n + 1 < (lm b).length := by omega
  have k19 : (lm b).length - 1 = n + 1 := by omega
  have k20 : n + 1 ≤ n + 2 := by omega
  have k21 : 0 < q := by omega
  have k22 : n + 2 ≤ n + 2 + 1 := by omega
  have htop := lv_all (lm b) (n + 1) hn
  have hr0 := lv_nonneg (lok_take cb.1 (n + 1))
  have hr1 := lv_lt (lok_take cb.1 (n + 1))
  rw [List.length_take, Nat.min_eq_left k16] at hr1
  have hto := rd_ok cb.1 ((n + 1 : Nat) : Int)
  have htp : 0 < rd (lm b) ((n + 1 : Nat) : Int) := by
    have h := cb.2 hbn
    have e : rd (lm b) ((n + 1 : Nat) : Int) = (lm b).getLast hbn := by
      rw [rd_nat, List.getLast_eq_getElem]
      simp [List.getD, k18, k19]
    rw [← e] at h
    omega
  obtain ⟨s, hs, hlz, hs1, hs2⟩ := lz_spec htp hto.2
  have hP := pow2_pos s
  have hP1 := pow2_le31 hs
  have hPn := BP_pos (n + 1)
  have hfit : lv (lm b) * 2 ^ s < BP (n + 2) := by
    obtain ⟨c, hc⟩ := pow2_dvd hs
    have h2 : rd (lm b) ((n + 1 : Nat) : Int) + 1 ≤ c := by
      have h3 : (2 : Int) ^ s * rd (lm b) ((n + 1 : Nat) : Int) < 2 ^ s * c := by rw [← hc, Int.mul_comm]; exact hs2
      have := BP_inj_lt hP h3
      omega
    have h3 : lv (lm b) < BP (n + 1) * c := by
      have h4 : BP (n + 1) * (rd (lm b) ((n + 1 : Nat) : Int) + 1) ≤ BP (n + 1) * c := Int.mul_le_mul_of_nonneg_left h2 (by omega)
      rw [Int.mul_add, Int.mul_one] at h4
      omega
    have h4 : lv (lm b) * 2 ^ s < BP (n + 1) * c * 2 ^ s := Int.mul_lt_mul_of_pos_right h3 hP
    rw [BP_succ (n + 1), hc]
    revert h4
    generalize lv (lm b) = x1
    generalize (2 : Int) ^ s = x2
    intro h4
    grind
  obtain ⟨z, hz1, hz2, hz3, hz4⟩ := shifted_ev cb.1 k10 hs
  obtain ⟨u, hu1, hu2, hu3, hu4⟩ := shifted_ev ca.1 k11 hs
  rw [hn] at hz3
  -- the divisor, shifted: its last limb is 0 and falls away
  have hd2 : lok (z.take (n + 2)) := lok_take hz2 _
  have hd3 : (z.take (n + 2)).length = n + 2 := by rw [List.length_take, hz3]; exact Nat.min_eq_left k22
  have hd4 : lv (z.take (n + 2)) = lv (lm b) * 2 ^ s := by
    have h1 := lv_split z (n + 2) (by rw [hz3]; exact k22)
    have h2 := lv_nonneg (lok_drop hz2 (n + 2))
    have h3 := lv_nonneg hd2
    have h4 : BP (n + 2) * lv (z.drop (n + 2)) < BP (n + 2) * 1 := by rw [Int.mul_one]; omega
    have h5 := BP_inj_lt (BP_pos _) h4
    have h6 : lv (z.drop (n + 2)) = 0 := by omega
    rw [h6, Int.mul_zero, Int.add_zero] at h1
    rw [← h1]; exact hz4
  have hdtop : 2147483648 ≤ rd (z.take (n + 2)) ((n + 1 : Nat) : Int) := by
    have h2 := lv_all (z.take (n + 2)) (n + 1) hd3
    have h3 := lv_lt (lok_take hd2 (n + 1))
    rw [List.length_take, hd3, Nat.min_eq_left k20] at h3
    have h4 : BP (n + 1) * 2147483648 ≤ lv (z.take (n + 2)) := by
      have h5 : BP (n + 1) * rd (lm b) ((n + 1 : Nat) : Int) * 2 ^ s ≤ lv (lm b) * 2 ^ s := Int.mul_le_mul_of_nonneg_right (by omega) (by omega)
      have h6 : BP (n + 1) * 2147483648 ≤ BP (n + 1) * (rd (lm b) ((n + 1 : Nat) : Int) * 2 ^ s) := Int.mul_le_mul_of_nonneg_left hs1 (by omega)
      rw [Int.mul_assoc] at h5
      omega
    have h5 : BP (n + 1) * 2147483647 < BP (n + 1) * rd (z.take (n + 2)) ((n + 1 : Nat) : Int) := by omega
    have := BP_inj_lt hPn h5
    omega
  have hU0 : lv u < BP q * lv (z.take (n + 2)) := by
    have h2 := lv_lt ca.1
    have h3 := lv_nonneg ca.1
    have h4 : lv (lm a) * 2 ^ s ≤ lv (lm a) * 2147483648 := Int.mul_le_mul_of_nonneg_left hP1 h3
    have h5 := lv_ge hd2 (n + 1)
    have h6 : BP (n + 1) * 2147483648 ≤ BP (n + 1) * rd (z.take (n + 2)) ((n + 1 : Nat) : Int) := Int.mul_le_mul_of_nonneg_left hdtop (by omega)
    have h7 : BP (n + 1) * 2147483648 * BP q ≤ lv (z.take (n + 2)) * BP q := Int.mul_le_mul_of_nonneg_right (Int.le_trans h6 h5) (Int.le_of_lt (BP_pos q))
    have h8 : BP (lm a).length = BP (n + 1) * BP q := by rw [← BP_add, k17]
    rw [hu4, Int.mul_comm (BP q)]
    rw [h8] at h2
    exact rg7 h2 h4 h7
  have h := rlong_l1 s hs (z.take (n + 2)) hd2 n hd3 hdtop (lv u) q k13 q u (List.replicate q 0) (Nat.le_refl _) hu2 (by rw [hu3, hq]) (lok_replicate _) List.length_replicate k21 hU0
    (by rw [List.drop_of_length_le (by rw [List.length_replicate]; exact Nat.le_refl _)]; show lv u = _ * 0 + lv u; rw [Int.mul_zero, Int.zero_add])
  have e1 : (lv u / lv (z.take (n + 2))).toNat = a / b := by
    rw [hu4, hd4, Int.mul_ediv_mul_of_pos_left _ _ hP, va, vb, ← Int.natCast_ediv]; exact Int.toNat_natCast _
  have e2 : (lv u % lv (z.take (n + 2)) / 2 ^ s).toNat = a % b := by
    rw [hu4, hd4, Int.mul_comm, Int.mul_comm (lv (lm b)), Int.mul_emod_mul_of_pos _ _ hP, Int.mul_ediv_cancel_left _ (by omega), va, vb, ← Int.natCast_emod]; exact Int.toNat_natCast _
  rw [e1, e2] at h
  have i3 : wrap64 (((lm a).length : Int) - ((n + 2 : Nat) : Int)) = (((lm a).length - (n + 2) : Nat) : Int) := ix_sub k4 k3
  have i4 : wrap64 ((((lm a).length - (n + 2) : Nat) : Int) + 1) = (q : Int) := by rw [ix_succ k5, k6]
  have hfin := rlong_l0 (lm a) (lm b) n hn k0 cb.1 s hs hs1 hs2 (lm (a / b), lm (a % b)) (Ev.bind hu1 (Ev.bind hz1 (Ev.congr (fun k => by
    rw [if_pos (ix_nn _), hz3, if_pos (ix_le k22), i3, i4, if_pos (ix_nn _), Int.toNat_natCast, if_pos k9, Int.toNat_natCast, k61]) h))) s 0 (Nat.zero_add _)
  unfold R1long.f
  rw [hn]
  exact hfin
theorem rdivide_ev (a b : Nat) (hb : 0 < b) (la : (lm a).length ≤ 274877906944) (lb : (lm b).length ≤ 274877906944) : Ev (fun k => R1divide.f k (lm a) (lm b)) (lm (a / b), lm (a % b)) := by
  have ca := lm_can a
  have cb := lm_can b
  have va := lm_lv a
  have vb := lm_lv b
  have hcmp := order_ev ca cb (by omega) (by omega)
  rw [va, vb] at hcmp
  by_cases hlt : a < b
  · rw [Nat.div_eq_of_lt hlt, Nat.mod_eq_of_lt hlt]
    have e0 : lm 0 = [] := lm_nil.2 rfl
    rw [e0]
    have e : cmpI (a : Int) (b : Int) = -1 := by unfold cmpI; rw [if_pos (by omega)]
    rw [e] at hcmp
    unfold R1divide.f
    exact Ev.bind hcmp (Ev.of fun k => by rw [if_pos (by decide)])
  have e : ¬ cmpI (a : Int) (b : Int) < 0 := by
    unfold cmpI
    rw [if_neg (by omega)]
    split <;> decide
  by_cases h1 : (lm b).length = 1
  · obtain ⟨x, hx⟩ : ∃ x, lm b = [x] := List.length_eq_one_iff.1 h1
    have hxv : x = (b : Int) := by rw [hx] at vb; simp only [lv] at vb; omega
    have hxo := cb.1 x (by rw [hx]; exact List.mem_cons_self)
    subst hxv
    have hds := short_ev (a := lm a) ca.1 (by omega) (d := (b : Int)) (by omega) hxo.2
    rw [va] at hds
    have e1 : ((a : Int) / (b : Int)).toNat = a / b := by rw [← Int.natCast_ediv]; exact Int.toNat_natCast _
    have e2 : (a : Int) % (b : Int) = ((a % b : Nat) : Int) := by rw [← Int.natCast_emod]
    rw [e1, e2] at hds
    have hm : a % b < b := Nat.mod_lt _ hb
    have ht := strip_ev (l := [((a % b : Nat) : Int)]) (lok_cons (by omega) (by omega) lok_nil) (show (1 : Nat) ≤ _ by decide)
    have e3 : (lv [((a % b : Nat) : Int)]).toNat = a % b := by simp only [lv]; omega
    rw [e3] at ht
    unfold R1divide.f
    refine Ev.bind hcmp ?_
    refine Ev.congr (h := fun k => (R1short.f k (lm a) (b : Int)).bind fun bt => (R1strip.f k [bt.2]).bind fun t => some (bt.1, t)) (fun k => ?_) (Ev.bind hds (Ev.bind (h := fun _ t => some (lm (a / b), t)) ht (Ev.of fun _ => rfl)))
    rw [if_neg e, hx, if_pos (show (([(b : Int)] : List Int).length : Int) = 1 from rfl), if_pos (show (0 : Int) < (([(b : Int)] : List Int).length : Int) from Int.zero_lt_one)]
    rfl
  obtain ⟨n, hn⟩ : ∃ n, (lm b).length = n + 2 := by
    have : (lm b).length ≠ 0 := fun h => by
      have := lm_nil.1 (List.length_eq_zero_iff.1 h)
      omega
    exact ⟨(lm b).length - 2, by omega⟩
  have h := long_ev a b (by omega) la n hn
  have e5 : ¬ ((lm b).length : Int) = 1 := by omega
  unfold R1divide.f
  refine Ev.bind hcmp ?_
  refine Ev.congr (h := fun k => (R1long.f k (lm a) (lm b)).bind fun bt => some (bt.1, bt.2)) (fun k => ?_) (Ev.bind h (Ev.of fun _ => rfl))
  rw [if_neg e, if_neg e5]
theorem common_l0 (n : Nat) : ∀ (a b : Nat), b < n → (lm a).length ≤ 274877906944 → (lm b).length ≤ 274877906944 → Ev (fun k => R1common.l0 k (lm a) (lm b)) (lm (Nat.gcd a b)) := by
  induction n with
  | zero => intro a b hb; omega
  | succ n ih =>
    intro a b hbn la lb
    by_cases hb : b = 0
    · subst hb
      have e0 : lm 0 = [] := lm_nil.2 rfl
      rw [Nat.gcd_zero_right, e0]
      refine Ev.succ (h := fun k => some (lm a)) (fun k => ?_) (Ev.of fun _ => rfl)
      simp only [R1common.l0]
      rw [if_neg (by decide)]
    · have hm : a % b < b := Nat.mod_lt _ (by omega)
      have h := ih b (a % b) (by omega) lb (Nat.le_trans (lm_len_le (by omega)) lb)
      have e : Nat.gcd a b = Nat.gcd b (a % b) := by rw [Nat.gcd_comm, Nat.gcd_rec, Nat.gcd_comm]
      rw [e]
      refine Ev.succ (h := fun k => (R1divide.f k (lm a) (lm b)).bind fun bt => R1common.l0 k (lm b) bt.2) (fun k => ?_) (Ev.bind (rdivide_ev a b (by omega) la lb) h)
      simp only [R1common.l0]
      have hl : ((lm b).length : Int) > 0 := by
        have : (lm b).length ≠ 0 := fun h => by
          have := lm_nil.1 (List.length_eq_zero_iff.1 h)
          omega
        omega
      rw [if_pos hl]
theorem common_ev (a b : Nat) (la : (lm a).length ≤ 274877906944) (lb : (lm b).length ≤ 274877906944) : Ev (fun k => R1common.f k (lm a) (lm b)) (lm (Nat.gcd a b)) :=
  common_l0 _ _ _ (Nat.lt_succ_self _) la lb
theorem rtext_lm {n : Nat} (hlen : (lm n).length ≤ 1099511627776) : Ev (fun k => R1text.f k (lm n)) (enc n) := by
  have h := rtext_ev (lm_can n).1 hlen
  rw [lm_lv, Int.toNat_natCast] at h
  exact h
theorem rGCD_ev (a b : ByteArray) (ha : a.size ≤ 1099511627776) (hb : b.size ≤ 1099511627776) : Ev (fun k => R1GCD.f k a b) (enc (Nat.gcd (sv a) (sv b))) := by
  have la := lm_sv_len a ha
  have lb := lm_sv_len b hb
  have hle : (lm (Nat.gcd (sv a) (sv b))).length ≤ 1099511627776 := by
    by_cases h0 : sv a = 0
    · rw [h0, Nat.gcd_zero_left]; omega
    · exact Nat.le_trans (Nat.le_trans (lm_len_le (Nat.le_of_dvd (by omega) (Nat.gcd_dvd_left _ _))) la) (by decide)
  unfold R1GCD.f
  exact Ev.bind (rlimbs_ev a ha) (Ev.bind (rlimbs_ev b hb) (Ev.bind (common_ev _ _ la lb) (Ev.bind (rtext_lm hle) (Ev.of fun _ => rfl))))
end Go.Proofs.YtggfilmdfpmbmaaGreatDoor.V
end
