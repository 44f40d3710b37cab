/-
  Steps and laws behind the statement that the claim's last text proves: the words of the walks, the walks of the Go functions (printed by a program of this session's own, then shortened by one), and what they compute. Conditions: stated at each theorem.
-/
import Derived.Test.YtggfilmdfpmbmaaDoorP1
import Derived.Test.YtggfilmdfpmbmaaDoorP3
import Derived.Test.YtggfilmdfpmbmaaDoorP0
import Derived.Test.YtggfilmdfpmbmaaDoorP2
import Derived.Test.YtggfilmdfpmbmaaDoorP4
section
namespace Go.Proofs.YtggfilmdfpmbmaaDoor.QN
open Go.RowKit Go.Proofs.YtggfilmdfpmbmaaDoorW.PrintWords Go.Proofs.YtggfilmdfpmbmaaDoorW.PrintLast Go.Proofs.YtggfilmdfpmbmaaDoorW.PrintMore
attribute [local go_sem] max2_int min2_int max_two min_two max_three min_three max_four min_four
set_option linter.unusedVariables false
set_option linter.unusedSimpArgs false
set_option maxHeartbeats 8000000
set_option maxRecDepth 100000
def R1divide.f (k : Nat) (l0 l1 : List Int) : Option (List Int × List Int) := (R1order.f k l0 l1).bind fun t408 => (if t408 < 0 then (some (([] : List Int), l0)) else (if (l1.length : Int) = 1 then (if 0 < (l1.length : Int) then ((R1short.f k l0 (rd l1 0)).bind fun bt410 => ((R1strip.f k (([bt410.2] : List Int))).bind fun t417 => (some (bt410.1, t417)))) else (none)) else ((R1long.f k l0 l1).bind fun bt420 => (some (bt420.1, bt420.2)))))
theorem R1divide.calls (k : Nat) (P0_ : Nat → Prop) (A0 : Option Addr) (c0 : Nat) (l0 : List Int) (A1 : Option Addr) (c1 : Nat) (l1 r1 r2 : List Int) (w : World) (hs0 : Kd.V (Kd.int .u32) 86 w w.heap.size (fun k_ => P0_ k_) (.slice A0 l0.length c0) l0) (hr1 : Kd.C (Kd.int .u32) w A1 l1.length l1) (hc1 : l1.length ≤ c1) (H : R1divide.f k l0 l1 = some (r1, r2)) :
 Calls Tryd.prog 76 #[.slice A0 l0.length c0, .slice A1 l1.length c1] w fun e w' => ∃ v0_ v1_ : Value, e = .returned (.tuple #[v0_, v1_]) ∧ Kd.V (Kd.int .u32) 86 w' w.heap.size (fun k_ => (P0_ k_ ∨ w.heap.size ≤ k_)) v0_ r1 ∧ Kd.V (Kd.int .u32) 86 w' w.heap.size (fun k_ => (P0_ k_ ∨ w.heap.size ≤ k_)) v1_ r2 ∧ Below w.heap.size w w' := by
 have O1 := Aside0.mk (show Kd.V (Kd.int .u32) 86 w w.heap.size (fun k_ => (P0_ k_ ∨ w.heap.size ≤ k_)) (.slice A0 l0.length c0) l0 from Kd.V_mono hs0 (fun k_ hk => .inl hk))
 have HR1 := Aside0.mk hr1
 have HC1 := Aside0.mk hc1
 clear hr1 hc1
 have HB := Aside0.mk (Below.refl w.heap.size w)
 unfold R1divide.f at H
 replace ⟨t1, A2, H⟩ := bS H
 replace H := iL H
 rcases H with ⟨c2b0, H⟩ | ⟨c2b0, H⟩
 ·simp only [Option.some.injEq, Prod.mk.injEq] at H
  obtain ⟨rfl, rfl⟩ := H
  go_enter Tryd.func76, Tryd.ntmps76
  go_wp2_with (refine gD 10 Tryd.func82 (R1order.calls k _ _ l0 _ _ l1 t1 _ ?side1 ?side2 ?side3 ?side4 A2.out) fun nd => ?_; (case side1 => exact sC (Kd.V_reads' O1.out).2.2); (case side2 => exact (Kd.V_reads' O1.out).2.1); (case side3 => exact sC HR1.out); (case side4 => exact HC1.out))
  go_ret2
  exact ⟨_, _, zE, Kd.V_mono (Kd.R_V zq35) (fun k_ hk => by first | exact ⟨(.inr (hk.1)), hk.2⟩ | exact (.inr (hk))), zV, zH⟩
 ·replace H := iQ H
  rcases H with ⟨c3b0, c3b1, H⟩ | ⟨c3b0, c3b1, H⟩
  ·replace H := of_ite H
   obtain ⟨c4, H⟩ := H
   have c4b0 := decide_eq_true c4
   have c4b1 : decide (0 < l1.length) = true := decide_eq_true (by omega)
   clear c4
   replace ⟨⟨t2, t3⟩, A3, H⟩ := bS H
   (try dsimp only at H)
   generalize yh1 : (([t3] : List Int) : List Int) = y1 at H
   have Y1 := Aside0.mk yh1.symm; clear yh1
   replace ⟨t4, A4, H⟩ := bS H
   simp only [Option.some.injEq, Prod.mk.injEq] at H
   obtain ⟨rfl, rfl⟩ := H
   go_enter Tryd.func76, Tryd.ntmps76
   go_wp2_with (first | (refine gD 10 Tryd.func82 (R1order.calls k _ _ l0 _ _ l1 t1 _ ?side1 ?side2 ?side3 ?side4 A2.out) fun nd => ?_; (case side1 => exact sC (Kd.V_reads' O1.out).2.2); (case side2 => exact (Kd.V_reads' O1.out).2.1); (case side3 => exact sC HR1.out); (case side4 => exact HC1.out); have p1 : 0 ≤ (0 : Int) := (by omega); have q1 : 0 < (l1.length : Int) := of_decide_eq_true zq0; obtain ⟨ad1, e1, hx1⟩ := Kd.at_int HR1.out 0 p1 q1; cases e1; have qi409 : (0 < l1.length) = True := eq_true (by omega); (try rw [show ((0 : Int)).toNat = 0 from rfl] at hx1); (try rw [Addr.add_zero'] at hx1); replace p1 := eq_true p1; replace q1 := eq_true q1) | (refine gR 21 Tryd.func91 (R1short.calls _ _ _ _ _ _ _ _ ?side1 ?side2 A3.out) fun v1 w1 ho0 hb => ?_; (case side1 => exact sC (Kd.V_reads' O1.out).2.2); (case side2 => exact (Kd.V_reads' O1.out).2.1); have O2 := Aside0.mk (Kd.V_lower (Kd.V_mono (ok' := fun k_ => (P0_ k_ ∨ w.heap.size ≤ k_)) ho0 (fun k_ hk_ => (.inr (Nat.le_trans (below_size zH) hk_)))) (below_size zH)); replace O1 := vB O1 hb; replace HB := sB hb; (try clear hb); (try clear ho0)) | ((with_reducible refine gate_dst (N := 26) rfl ?_); refine Kd.R_lit (Kd.int .u32) _ 86 ?hg (N := 26) ?hd (xs := ([t3] : List Int)) (inner := [.int .u32 t3]) (ok := fun _ => True) (okp := fun _ => True) ?hr ?hp (fun _ hk => hk) trivial (Below.refl _ _) (Nat.le_refl _) (by simp) ?_; (case hd => rfl); (case hg => rfl); (case hr => first | (go_simp; done) | (go_simp; rfl)); (case hp => exact (Reps.one (show Kd.M (Kd.int .u32) _ _ _ t3 [.int .u32 t3] from rfl) (Reps.none _ _))); intro v2 w2 ho11 hb hg_ hnew_; clear hg_ hnew_; (first | rw [← Y1.out] at ho11 | (simp only [Int.reduceToNat] at ho11; rw [← Y1.out] at ho11)); have O3 := Aside0.mk (Kd.R_lower (Kd.R_newM (M := fun k_ => (w.heap.size ≤ k_)) ho11 (below_size zH) (fun k_ h_ => h_)) (below_size zH)); replace O1 := Aside0.mk (Kd.V_elder' zq14 (Kd.R_base ho11) hb); replace O2 := Aside0.mk (Kd.V_elder' zq28 (Kd.R_base ho11) hb); replace HB := sB hb; clear hb ho11; obtain ⟨P1, d1, u1⟩ := Kd.R_slice O3.out; subst u1) | (refine gR 27 Tryd.func78 (R1strip.calls k (fun k_ => some k_ = (.slice P1 y1.length d1 : Value).ownBlock) _ _ y1 t4 _ ?side1 A4.out) fun v3 w3 ho0 hb => ?_; (case side1 => exact Kd.R_V (Kd.R_tight rfl (O3.out))); have O4 := Aside0.mk (Kd.V_lower (Kd.V_mono (ok' := fun k_ => (P0_ k_ ∨ w.heap.size ≤ k_)) ho0 (fun k_ hk_ => Or.elim hk_ (fun hs_ => (.inr (((O3.out).1 k_ hs_.symm).1))) (fun hn_ => (.inr (Nat.le_trans (below_size zH) hn_))))) (below_size zH)); replace O1 := vB O1 hb; replace O2 := vB O2 hb; replace O3 := rB O3 hb; replace HB := sB hb; (try clear hb); (try clear ho0)))
   go_ret2
   exact ⟨_, _, zE, by (with_reducible repeat (first | apply Kd.V_alloc | apply Kd.V_drewN | apply Kd.V_drew)); exact Kd.V_mono O2.out (fun _ hk => hk.1), zV, zH⟩
  ·replace ⟨⟨t2, t3⟩, A3, H⟩ := bS H
   (try dsimp only at H)
   simp only [Option.some.injEq, Prod.mk.injEq] at H
   obtain ⟨rfl, rfl⟩ := H
   go_enter Tryd.func76, Tryd.ntmps76
   go_wp2_with (first | (refine gD 10 Tryd.func82 (R1order.calls k _ _ l0 _ _ l1 t1 _ ?side1 ?side2 ?side3 ?side4 A2.out) fun nd => ?_; (case side1 => exact sC (Kd.V_reads' O1.out).2.2); (case side2 => exact (Kd.V_reads' O1.out).2.1); (case side3 => exact sC HR1.out); (case side4 => exact HC1.out)) | (refine goesLA 30 Tryd.func92 #[.slice A0 l0.length c0, .slice A1 l1.length c1] ?_; (with_reducible refine (R1long.calls k _ _ l0 _ _ l1 t2 t3 _ ?side1 ?side2 ?side3 ?side4 A3.out).mono ?_); (case side1 => exact sC (Kd.V_reads' O1.out).2.2); (case side2 => exact (Kd.V_reads' O1.out).2.1); (case side3 => exact sC HR1.out); (case side4 => exact HC1.out); rintro e w1 ⟨v1, v2, rfl, ho0, ho1, hb⟩; refine ⟨_, rfl, ?_⟩; have O2 := Aside0.mk (Kd.V_lower (Kd.V_mono (ok' := fun k_ => (P0_ k_ ∨ w.heap.size ≤ k_)) ho0 (fun k_ hk_ => (.inr (Nat.le_trans (below_size zH) hk_)))) (below_size zH)); have O3 := Aside0.mk (Kd.V_lower (Kd.V_mono (ok' := fun k_ => (P0_ k_ ∨ w.heap.size ≤ k_)) ho1 (fun k_ hk_ => (.inr (Nat.le_trans (below_size zH) hk_)))) (below_size zH)); replace O1 := vB O1 hb; replace HB := sB hb; (try clear hb); (try clear ho0); (try clear ho1)))
   go_ret2
   exact ⟨_, _, zE, zV, zV, zH⟩
def R1common.l0 : Nat → List Int → List Int → Option (List Int)
 | 0, _, _ => none
 | k + 1, x0, x1 => if (x1.length : Int) > 0 then ((R1divide.f k x0 x1).bind fun bt426 => (R1common.l0 k x1 bt426.2)) else (some x0)
def R1common.f (k : Nat) (l0 l1 : List Int) : Option (List Int) := R1common.l0 k l0 l1
theorem R1common.calls (k : Nat) (P0_ : Nat → Prop) (A0 : Option Addr) (c0 : Nat) (l0 : List Int) (P1_ : Nat → Prop) (A1 : Option Addr) (c1 : Nat) (l1 r : List Int) (w : World) (hs0 : Kd.V (Kd.int .u32) 86 w w.heap.size (fun k_ => P0_ k_) (.slice A0 l0.length c0) l0) (hs1 : Kd.V (Kd.int .u32) 86 w w.heap.size (fun k_ => P1_ k_) (.slice A1 l1.length c1) l1) (H : R1common.f k l0 l1 = some r) :
 Calls Tryd.prog 75 #[.slice A0 l0.length c0, .slice A1 l1.length c1] w fun e w' => ∃ v0_ : Value, e = .returned (v0_) ∧ Kd.V (Kd.int .u32) 86 w' w.heap.size (fun k_ => ((P0_ k_ ∨ P1_ k_) ∨ w.heap.size ≤ k_)) v0_ r ∧ Below w.heap.size w w' := by
 have O1 := Aside0.mk (show Kd.V (Kd.int .u32) 86 w w.heap.size (fun k_ => ((P0_ k_ ∨ P1_ k_) ∨ w.heap.size ≤ k_)) (.slice A0 l0.length c0) l0 from Kd.V_mono hs0 (fun k_ hk => .inl (.inl hk)))
 have O2 := Aside0.mk (show Kd.V (Kd.int .u32) 86 w w.heap.size (fun k_ => ((P0_ k_ ∨ P1_ k_) ∨ w.heap.size ≤ k_)) (.slice A1 l1.length c1) l1 from Kd.V_mono hs1 (fun k_ hk => .inl (.inr hk)))
 have HB := Aside0.mk (Below.refl w.heap.size w)
 unfold R1common.f at H
 have H' := Aside0.mk H
 clear H
 go_enter Tryd.func75, Tryd.ntmps75
 go_wp2
 go_loopg [0, 1] k (fun kq v1 v2 w' => ∃ (x1 : List Int) (x2 : List Int), Aside0 (R1common.l0 kq x1 x2 = some r) ∧ Aside0 (kq ≤ k) ∧ Aside0 (Kd.V (Kd.int .u32) 86 w' w.heap.size (fun k_ => ((P0_ k_ ∨ P1_ k_) ∨ w.heap.size ≤ k_)) v1 x1) ∧ Aside0 (Kd.V (Kd.int .u32) 86 w' w.heap.size (fun k_ => ((P0_ k_ ∨ P1_ k_) ∨ w.heap.size ≤ k_)) v2 x2) ∧ Aside0 (Below w.heap.size w w'))
 case atStart => exact ⟨(l0), (l1), H', ⟨Nat.le_refl _⟩, ⟨zV⟩, ⟨zV⟩, ⟨zH⟩⟩
 case round =>
  clear H'
  obtain ⟨x1, x2, HA, HK1, HO_0, HO_1, HB⟩ := hrel
  cases gk with
  | zero => exact absurd HA.out (by simp [R1common.l0])
  | succ k1 =>
   have H := HA.out
   clear HA
   simp only [R1common.l0] at H
   by_cases c2 : (x2.length : Int) > 0
   ·rw [if_pos c2] at H
    have c2b0 := decide_eq_true c2
    have c2b1 : decide (0 < x2.length) = true := decide_eq_true (by omega)
    clear c2
    replace ⟨⟨t1, t2⟩, A2, H⟩ := bS H
    (try dsimp only at H)
    have H' := Aside0.mk H
    clear H
    obtain ⟨P1, d1, u1⟩ := Kd.V_slice HO_1.out
    subst u1
    obtain ⟨P2, d2, u2⟩ := Kd.V_slice HO_0.out
    subst u2
    go_wp2_with (refine goesLA 13 Tryd.func76 #[.slice P2 x1.length d2, .slice P1 x2.length d1] ?_; (with_reducible refine (R1divide.calls k1 (fun k_ => ((P0_ k_ ∨ P1_ k_) ∨ w.heap.size ≤ k_)) _ _ x1 _ _ x2 t1 t2 _ ?side1 ?side2 ?side3 A2.out).mono ?_); (case side1 => exact HO_0.out); (case side2 => exact sC (Kd.V_reads' HO_1.out).2.2); (case side3 => exact (Kd.V_reads' HO_1.out).2.1); rintro e w1 ⟨v3, v4, rfl, ho0, ho1, hb⟩; refine ⟨_, rfl, ?_⟩; have O3 := Aside0.mk (Kd.V_lower (Kd.V_mono (ok' := fun k_ => ((P0_ k_ ∨ P1_ k_) ∨ w.heap.size ≤ k_)) ho0 (fun k_ hk_ => Or.elim hk_ (fun hs_ => hs_) (fun hn_ => (.inr (Nat.le_trans (below_size zH) hn_))))) (below_size zH)); have O4 := Aside0.mk (Kd.V_lower (Kd.V_mono (ok' := fun k_ => ((P0_ k_ ∨ P1_ k_) ∨ w.heap.size ≤ k_)) ho1 (fun k_ hk_ => Or.elim hk_ (fun hs_ => hs_) (fun hn_ => (.inr (Nat.le_trans (below_size zH) hn_))))) (below_size zH)); replace HO_0 := vB HO_0 hb; replace HO_1 := vB HO_1 hb; replace HB := sB hb; (try clear hb); (try clear ho0); (try clear ho1))
    go_roundg k1
    case measure => have := HK1.out; omega
    case rel => exact ⟨(x2), (t2), H', ⟨zq3⟩, ⟨zV⟩, ⟨zV⟩, ⟨zH⟩⟩
   ·rw [if_neg c2] at H
    have c2b0 := decide_eq_false c2
    have c2b1 : decide (0 < x2.length) = false := decide_eq_false (by omega)
    clear c2
    obtain rfl := sI H
    obtain ⟨P1, d1, u1⟩ := Kd.V_slice HO_1.out
    subst u1
    go_wp2
    go_ret
    exact ⟨_, zE, zV, zH⟩
def R1FromUint.f (k : Nat) (a0 : Int) : Option (ByteArray) := (R1text.f k (([(a0) % 4294967296, (a0 / 4294967296) % 4294967296] : List Int))).bind fun t484 => (some t484)
theorem R1FromUint.calls (k : Nat) (a0 : Int) (r : ByteArray) (w : World) (H : R1FromUint.f k a0 = some r) :
 Calls Tryd.prog 60 #[.int .u64 a0] w fun e w' => e = .returned (.string r) ∧ Below w.heap.size w w' := by
 have HB := Aside0.mk (Below.refl w.heap.size w)
 unfold R1FromUint.f at H
 generalize yh1 : (([(a0) % 4294967296, (a0 / 4294967296) % 4294967296] : List Int) : List Int) = y1 at H
 have Y1 := Aside0.mk yh1.symm; clear yh1
 replace ⟨t1, A1, H⟩ := bS H
 obtain rfl := sI H
 go_enter Tryd.func60, Tryd.ntmps60
 go_wp2_with (first | ((with_reducible refine gate_dst (N := 8) rfl ?_); refine Kd.R_lit (Kd.int .u32) _ 86 ?hg (N := 8) ?hd (xs := ([(a0) % 4294967296, (a0 / 4294967296) % 4294967296] : List Int)) (inner := [.int .u32 ((a0) % 4294967296), .int .u32 ((a0 / 4294967296) % 4294967296)]) (ok := fun _ => True) (okp := fun _ => True) ?hr ?hp (fun _ hk => hk) trivial (Below.refl _ _) (Nat.le_refl _) (by simp) ?_; (case hd => rfl); (case hg => rfl); (case hr => first | (go_simp; done) | (go_simp; rfl)); (case hp => exact (Reps.one (show Kd.M (Kd.int .u32) _ _ _ ((a0) % 4294967296) [.int .u32 ((a0) % 4294967296)] from rfl) (Reps.one (show Kd.M (Kd.int .u32) _ _ _ ((a0 / 4294967296) % 4294967296) [.int .u32 ((a0 / 4294967296) % 4294967296)] from rfl) (Reps.none _ _)))); intro v1 w1 ho4 hb hg_ hnew_; clear hg_ hnew_; (first | rw [← Y1.out] at ho4 | (simp only [Int.reduceToNat] at ho4; rw [← Y1.out] at ho4)); have O1 := Aside0.mk (Kd.R_lower ho4 (below_size zH)); replace HB := sB hb; clear hb ho4; obtain ⟨P1, d1, u1⟩ := Kd.R_slice O1.out; subst u1) | (refine gB 9 Tryd.func77 (R1text.calls k _ _ y1 t1 _ ?side1 ?side2 A1.out) fun w2 hb HB => ?_; (case side1 => exact sC (Kd.R_reads' O1.out).2.2); (case side2 => exact (Kd.R_reads' O1.out).2.1); replace O1 := rB O1 hb; clear hb))
 go_ret
 exact ⟨zE, zH⟩
def R1size.f (a0 : Int) : Option (Int) := if a0 < 0 then (some (IntKind.u64.wrap ((IntKind.u64.wrap (wrap64 (-(wrap64 (a0 + 1))))) + 1))) else (some (IntKind.u64.wrap (a0)))
theorem R1size.calls (a0 r : Int) (w : World) (H : R1size.f a0 = some r) :
 Calls Tryd.prog 61 #[.int .i64 a0] w fun e w' => e = .returned (.int .u64 r) ∧ Drawn0 w w' := by
 unfold R1size.f at H
 replace H := iL H
 rcases H with ⟨c1b0, H⟩ | ⟨c1b0, H⟩
 obtain rfl := sI H
 rotate_left
 obtain rfl := sI H
 rotate_left
 all_goals
  go_enter Tryd.func61, Tryd.ntmps61
  go_wp2
  go_ret
  exact ⟨zq1, zq6⟩
def Q1Make.f (k : Nat) (a0 : Bool) (a1 a2 : ByteArray) : Option (Bool × ByteArray × ByteArray × Bool) := (N1Normalize.f k a2).bind fun t595 => (if t595.toList = ([] : List UInt8) then (some (false, (⟨#[]⟩ : ByteArray), (⟨#[]⟩ : ByteArray), false)) else ((Q1reduced.f k a0 a1 a2).bind fun bt596 => (some (bt596.1, bt596.2.1, bt596.2.2, true))))
theorem Q1Make.calls (k : Nat) (a0 : Bool) (a1 a2 : ByteArray) (r1 : Bool) (r2 r3 : ByteArray) (r4 : Bool) (w : World) (H : Q1Make.f k a0 a1 a2 = some (r1, r2, r3, r4)) :
 Calls Tryd.prog 49 #[.bool a0, .string a1, .string a2] w fun e w' => e = .returned (.tuple #[.agg #[.bool r1, .string r2, .string r3], .bool r4]) ∧ Below w.heap.size w w' := by
 have hu1 := Tryd.underlying29
 have HB := Aside0.mk (Below.refl w.heap.size w)
 unfold Q1Make.f at H
 replace ⟨t1, A1, H⟩ := bS H
 replace H := iQ H
 rcases H with ⟨c1b0, c1b1, H⟩ | ⟨c1b0, c1b1, H⟩
 ·simp only [Option.some.injEq, Prod.mk.injEq] at H
  obtain ⟨rfl, rfl, rfl, rfl⟩ := H
  go_enter Tryd.func49, Tryd.ntmps49
  go_wp2_with (first | (refine bxZ w 6 29 fun g1 w1 B1 G1 hg hb HB => ?_; clear hb hg) | (refine gF 9 Tryd.func63 (N1Normalize.calls _ _ _ _ A1.out) fun w1 hb HB => ?_; replace B1 := bB B1 hb; clear hb; obtain ⟨_, _, _, _, _, _⟩ := xB3 B1))
  refine pRt 29 #[.bool false, .string (⟨#[]⟩ : ByteArray), .string (⟨#[]⟩ : ByteArray)] B1 Tryd.underlying29 ?_
  exact ⟨zE, zH⟩
 ·replace ⟨⟨t2, t3, t4⟩, A2, H⟩ := bS H
  (try dsimp only at H)
  simp only [Option.some.injEq, Prod.mk.injEq] at H
  obtain ⟨rfl, rfl, rfl, rfl⟩ := H
  go_enter Tryd.func49, Tryd.ntmps49
  go_wp2_with (first | (refine bxZ w 6 29 fun g1 w1 B1 G1 hg hb HB => ?_; clear hb hg) | (refine gF 9 Tryd.func63 (N1Normalize.calls _ _ _ _ A1.out) fun w1 hb HB => ?_; replace B1 := bB B1 hb; clear hb) | (refine gB 15 Tryd.func42 (Q1reduced.calls _ _ _ _ _ _ _ _ A2.out) fun w2 hb HB => ?_; replace B1 := bB B1 hb; clear hb; obtain ⟨_, _, _, _, _, _⟩ := xB3 B1))
  refine pRt 29 #[.bool t2, .string t3, .string t4] B1 Tryd.underlying29 ?_
  exact ⟨zE, zH⟩
def Q1Divide.f (k : Nat) (a0_0 : Bool) (a0_1 a0_2 : ByteArray) (a1_0 : Bool) (a1_1 a1_2 : ByteArray) : Option (Bool × ByteArray × ByteArray × Bool) := (Q1clean.f k a0_0 a0_1 a0_2).bind fun bt602 => ((Q1clean.f k a1_0 a1_1 a1_2).bind fun bt605 => ((Q1den.f bt605.1 bt605.2.1 bt605.2.2).bind fun t608 => ((N1Multiply.f k bt602.2.1 t608).bind fun t609 => ((Q1den.f bt602.1 bt602.2.1 bt602.2.2).bind fun t610 => ((N1Multiply.f k t610 bt605.2.1).bind fun t611 => ((Q1Make.f k (bt602.1 != bt605.1) t609 t611).bind fun bt612 => (some (bt612.1, bt612.2.1, bt612.2.2.1, bt612.2.2.2))))))))
def Q1Divide.T2 : Bool × List (List Nat × List Nat) := (true, [([], []), ([0], [0]), ([], []), ([2], [2]), ([1, 3], [1, 3]), ([], []), ([5], [5]), ([], []), ([7], [7]), ([6, 8, 8], [6, 8]), ([], []), ([10, 9], [10]), ([], []), ([12], [12]), ([11, 13, 11], [11, 13]), ([4, 9, 14, 14], [4, 9, 14]), ([15], [15]), ([15], [15]), ([16, 15, 0, 1, 2, 3, 4, 5, 6, 7, 8, 9, 10, 11, 12, 13, 14, 15, 16, 17], [16]), ([17, 18, 0, 1, 2, 3, 4, 5, 6, 7, 8, 9, 10, 11, 12, 13, 14, 15, 16, 17, 18], [17])])
def Q1Divide.B2 : List Nat := [0, 1, 0, 4, 15, 0, 32, 0, 128, 480, 0, 2016, 0, 4096, 16352, 32767, 65535, 65535, 262143, 524287]
theorem Q1Divide.tab2 : rtab .any (opsOf Tryd.f25 2) = Q1Divide.T2 := by kernel_rfl
theorem Q1Divide.bits2 : waitsOk Q1Divide.T2.2 Q1Divide.B2 = true := by kernel_rfl
theorem Q1Divide.calls (k : Nat) (a0_0 : Bool) (a0_1 a0_2 : ByteArray) (a1_0 : Bool) (a1_1 a1_2 : ByteArray) (r1 : Bool) (r2 r3 : ByteArray) (r4 : Bool) (w : World) (H : Q1Divide.f k a0_0 a0_1 a0_2 a1_0 a1_1 a1_2 = some (r1, r2, r3, r4)) :
 Calls Tryd.prog 25 #[.agg #[.bool a0_0, .string a0_1, .string a0_2], .agg #[.bool a1_0, .string a1_1, .string a1_2]] w fun e w' => e = .returned (.tuple #[.agg #[.bool r1, .string r2, .string r3], .bool r4]) ∧ Below w.heap.size w w' := by
 have hu1 := Tryd.underlying29
 have HB := Aside0.mk (Below.refl w.heap.size w)
 unfold Q1Divide.f at H
 replace ⟨⟨t1, t2, t3⟩, A1, H⟩ := bS H
 (try dsimp only at H)
 replace ⟨⟨t4, t5, t6⟩, A2, H⟩ := bS H
 (try dsimp only at H)
 replace ⟨t7, A3, H⟩ := bS H
 replace ⟨t8, A4, H⟩ := bS H
 replace ⟨t9, A5, H⟩ := bS H
 replace ⟨t10, A6, H⟩ := bS H
 replace ⟨⟨t11, t12, t13, t14⟩, A7, H⟩ := bS H
 (try dsimp only at H)
 simp only [Option.some.injEq, Prod.mk.injEq] at H
 obtain ⟨rfl, rfl, rfl, rfl⟩ := H
 go_enter Tryd.func25, Tryd.ntmps25
 try go_wp2_with (first | (refine bxA w 2 #[.bool a0_0, .string a0_1, .string a0_2] 29 fun g1 w2 B1 G1 hg hb HB => ?_; clear hb hg) | (refine bxA w 3 #[.bool a1_0, .string a1_1, .string a1_2] 29 fun g2 w3 B2 G2 hg hb HB => ?_; obtain ⟨N1, N2⟩ := nP B1 hg; replace B1 := bB B1 hb; clear hb hg) | (refine bxZ w 4 29 fun g3 w4 B3 G3 hg hb HB => ?_; obtain ⟨N3, N4⟩ := nP B1 hg; obtain ⟨N5, N6⟩ := nP B2 hg; replace B1 := bB B1 hb; replace B2 := bB B2 hb; clear hb hg))
 replace B1 := bD B1
 replace B2 := bD B2
 replace B3 := bD B3
 replace HB := hD HB
 refine startC2 6 [4, 5] B1 B2 (fun hHeld => ?_)
 generalize w4.drew = w5 at B1 B2 B3 HB hHeld ⊢
 refine takeAk 0 6 (lB 6 1) rfl rfl hHeld ?_
 refine takeAk 2 8 (lB 6 5) rfl rfl hHeld ?_
 refine rcBk 1 7 Tryd.func41 (Q1clean.calls _ _ _ _ _ _ _ _ A1.out) hHeld br fun w6 hb hHeld => ?_
 refine rcBk 3 15 Tryd.func41 (Q1clean.calls _ _ _ _ _ _ _ _ A2.out) hHeld hb fun w7 hb hHeld => ?_
 replace B1 := bB B1 hb
 replace B2 := bB B2 hb
 replace B3 := bB B3 hb
 replace HB := sB hb
 clear hb
 refine last_ (i := 4) (N := none) (lB 6 31) rfl rfl (by kernel_rfl) (by decide) (fun K hK => ?_)
 have hs16 := cB B1 0 (.bool a0_0)
 have hfs16 := fB B1 0
 have hs17 := cB B1 1 (.string a0_1)
 have hfs17 := fB B1 1
 have hs18 := cB B1 2 (.string a0_2)
 have hfs18 := fB B1 2
 refine skip_ (w1 := ?_) (by rfl) rfl ?_ ?_
 rotate_left
 ·go_simp
  rfl
 refine hK.out _ _ ?_
 clear hK K
 refine last_ (i := 5) (N := none) (lB 6 63) rfl rfl (by kernel_rfl) (by decide) (fun K hK => ?_)
 have hs19 := cB B2 0 (.bool a1_0)
 have hfs19 := fB B2 0
 have hs20 := cB B2 1 (.string a1_1)
 have hfs20 := fB B2 1
 have hs21 := cB B2 2 (.string a1_2)
 have hfs21 := fB B2 2
 refine skip_ (w1 := ?_) (by rfl) rfl ?_ ?_
 rotate_left
 ·go_simp
  rfl
 refine hK.out _ _ ?_
 clear hK K
 refine done_ (by kernel_rfl) ?_
 try go_wp2
 generalize hW_ : ((((((w7.setCell ⟨g1, 0, none⟩ (.bool t1)).setCell ⟨g1, 1, none⟩ (.string t2)).setCell ⟨g1, 2, none⟩ (.string t3)).setCell ⟨g2, 0, none⟩ (.bool t4)).setCell ⟨g2, 1, none⟩ (.string t5)).setCell ⟨g2, 2, none⟩ (.string t6)) = w8
 replace B1 : Aside0 (w8.heap[g1]? = some (.cells #[.bool t1, .string t2, .string t3] 29 (0, 0))) := bG hW_ B1
 replace B2 : Aside0 (w8.heap[g2]? = some (.cells #[.bool t4, .string t5, .string t6] 29 (0, 0))) := bG hW_ B2
 replace B3 : Aside0 (w8.heap[g3]? = some (.cells #[.bool false, .string (⟨#[]⟩ : ByteArray), .string (⟨#[]⟩ : ByteArray)] 29 (0, 0))) := bG hW_ B3
 replace HB := hG hW_
 clear hW_
 replace B1 := bD B1
 replace B2 := bD B2
 replace B3 := bD B3
 replace HB := hD HB
 refine startC2 20 [] B1 B2 (fun hHeld => ?_); refine with_tabW Q1Divide.tab2 Q1Divide.bits2 (fun HT_ HW_ => ?_)
 generalize w8.drew = w9 at B1 B2 B3 HB hHeld ⊢
 refine pA 0 1 ?_
 refine pA 2 5 ?_
 refine pA 5 37 ?_
 refine pA 12 4133 ?_
 refine tA 1 4135 hHeld ?_
 refine tA 3 4143 hHeld ?_
 refine pA 4 4159 ?_
 refine tA 6 4223 hHeld ?_
 refine tA 7 4351 hHeld ?_
 refine tA 10 5375 hHeld ?_
 refine tA 13 13567 hHeld ?_
 refine rcB 8 13823 Tryd.func44 (Q1den.calls _ _ _ _ _ A3.out) hHeld br fun w10 hb hHeld => ?_
 refine rcB 9 14335 Tryd.func43 (N1Multiply.calls _ _ _ _ _ A4.out) hHeld hb fun w11 hb hHeld => ?_
 refine rcB 11 16383 Tryd.func44 (Q1den.calls _ _ _ _ _ A5.out) hHeld hb fun w12 hb hHeld => ?_
 refine rcB 14 32767 Tryd.func43 (N1Multiply.calls _ _ _ _ _ A6.out) hHeld hb fun w13 hb hHeld => ?_
 refine rcB 15 65535 Tryd.func49 (Q1Make.calls _ _ _ _ _ _ _ _ _ A7.out) hHeld hb fun w14 hb hHeld => ?_
 refine pA 16 131071 ?_
 refine pA 17 262143 ?_
 replace B1 := bB B1 hb
 replace B2 := bB B2 hb
 replace B3 := bB B3 hb
 replace HB := sB hb
 clear hb
 refine one_ (i := 18) (N := none) (lB 20 524287) rfl rfl (one_of HT_.out (by kernel_rfl)) (by decide) (fun K hK => ?_)
 have hs29 := cB B3 0 (.bool false)
 have hfs29 := fB B3 0
 have hs30 := cB B3 1 (.string (⟨#[]⟩ : ByteArray))
 have hfs30 := fB B3 1
 have hs31 := cB B3 2 (.string (⟨#[]⟩ : ByteArray))
 have hfs31 := fB B3 2
 refine skip_ (w1 := ?_) (by rfl) rfl ?_ ?_
 rotate_left
 ·go_simp
  rfl
 refine hK.out _ _ zC (fun hHeld => ?_)
 clear hK K
 refine pA 19 1048575 ?_
 refine done_ (done_of HT_.out (by kernel_rfl)) ?_
 try go_wp2
 refine pRt 29 #[.bool t11, .string t12, .string t13] B3 Tryd.underlying29 ?_
 exact ⟨zE, zH⟩
def Q1magnitude.f (k : Nat) (a0 : Int) : Option (ByteArray) := if a0 < 0 then ((N1FromUint.f k (IntKind.u64.wrap (-(IntKind.u64.wrap (a0))))).bind fun t616 => (some t616)) else ((N1FromUint.f k (IntKind.u64.wrap (a0))).bind fun t617 => (some t617))
theorem Q1magnitude.calls (k : Nat) (a0 : Int) (r : ByteArray) (w : World) (H : Q1magnitude.f k a0 = some r) :
 Calls Tryd.prog 48 #[.int .i64 a0] w fun e w' => e = .returned (.string r) ∧ Below w.heap.size w w' := by
 have HB := Aside0.mk (Below.refl w.heap.size w)
 unfold Q1magnitude.f at H
 replace H := iL H
 rcases H with ⟨c1b0, H⟩ | ⟨c1b0, H⟩
 ·replace ⟨t1, A1, H⟩ := bS H
  obtain rfl := sI H
  go_enter Tryd.func48, Tryd.ntmps48
  go_wp2_with (refine gB 8 Tryd.func71 (N1FromUint.calls _ _ _ _ A1.out) fun w1 hb HB => ?_; clear hb)
  go_ret
  exact ⟨zE, zH⟩
 ·replace ⟨t1, A1, H⟩ := bS H
  obtain rfl := sI H
  go_enter Tryd.func48, Tryd.ntmps48
  go_wp2_with (refine gB 11 Tryd.func71 (N1FromUint.calls _ _ _ _ A1.out) fun w1 hb HB => ?_; clear hb)
  go_ret
  exact ⟨zE, zH⟩
def Q1Int.f (k : Nat) (a0 : Int) : Option (Bool × ByteArray × ByteArray) := (Q1magnitude.f k a0).bind fun t619 => ((Q1reduced.f k (decide (a0 < 0)) t619 (⟨#[1]⟩ : ByteArray)).bind fun bt620 => (some (bt620.1, bt620.2.1, bt620.2.2)))
theorem Q1Int.calls (k : Nat) (a0 : Int) (r1 : Bool) (r2 r3 : ByteArray) (w : World) (H : Q1Int.f k a0 = some (r1, r2, r3)) :
 Calls Tryd.prog 24 #[.int .i64 a0] w fun e w' => e = .returned (.agg #[.bool r1, .string r2, .string r3]) ∧ Below w.heap.size w w' := by
 have hu1 := Tryd.underlying29
 have HB := Aside0.mk (Below.refl w.heap.size w)
 unfold Q1Int.f at H
 replace ⟨t1, A1, H⟩ := bS H
 replace ⟨⟨t2, t3, t4⟩, A2, H⟩ := bS H
 (try dsimp only at H)
 simp only [Option.some.injEq, Prod.mk.injEq] at H
 obtain ⟨rfl, rfl, rfl⟩ := H
 go_enter Tryd.func24, Tryd.ntmps24
 go_wp2_with (first | (refine bxZ w 2 29 fun g1 w1 B1 G1 hg hb HB => ?_; clear hb hg) | (refine gB 6 Tryd.func48 (Q1magnitude.calls _ _ _ _ A1.out) fun w2 hb HB => ?_; replace B1 := bB B1 hb; clear hb) | (refine gB 7 Tryd.func42 (Q1reduced.calls _ _ _ _ _ _ _ _ A2.out) fun w3 hb HB => ?_; replace B1 := bB B1 hb; clear hb; obtain ⟨_, _, _, _, _, _⟩ := xB3 B1))
 refine pR 29 #[.bool t2, .string t3, .string t4] B1 Tryd.underlying29 ?_
 exact ⟨zE, zH⟩
end Go.Proofs.YtggfilmdfpmbmaaDoor.QN
end
section
namespace Go.Proofs.YtggfilmdfpmbmaaDoor.QN
open Go.RowKit Go.Proofs.YtggfilmdfpmbmaaDoorW.PrintWords Go.Proofs.YtggfilmdfpmbmaaDoorW.PrintLast Go.Proofs.YtggfilmdfpmbmaaDoorW.PrintMore
attribute [local go_sem] max2_int min2_int max_two min_two max_three min_three max_four min_four
set_option linter.unusedVariables false
set_option linter.unusedSimpArgs false
mutual
def R1reduced.j0 : Nat → Bool → List Int → List Int → List Int → Bool → Option (Bool × ByteArray × ByteArray)
 | 0, _, _, _, _, _ => none
 | k + 1, x0, x1, x2, x7, x24 => if x24 = true then ((R1divide.f k x1 x7).bind fun bt641 => ((R1divide.f k x2 x7).bind fun bt647 => (R1reduced.j1 k x0 bt641.1 bt647.1))) else (R1reduced.j1 k x0 x1 x2)
def R1reduced.j1 : Nat → Bool → List Int → List Int → Option (Bool × ByteArray × ByteArray)
 | 0, _, _, _ => none
 | k + 1, x0, x1, x2 => (R1text.f k x1).bind fun t653 => (if (x2.length : Int) > 1 then ((R1text.f k x2).bind fun t655 => (some (x0, t653, t655))) else (if 0 < (x2.length : Int) then (if (rd x2 0) > 1 then ((R1text.f k x2).bind fun t657 => (some (x0, t653, t657))) else (some (x0, t653, (⟨#[]⟩ : ByteArray)))) else (none)))
end
def R1reduced.f (k : Nat) (a0 : Bool) (l1 l2 : List Int) : Option (Bool × ByteArray × ByteArray) := if (l1.length : Int) = 0 then (some (false, (⟨#[]⟩ : ByteArray), (⟨#[]⟩ : ByteArray))) else ((R1common.f k l1 l2).bind fun t637 => (if (t637.length : Int) > 1 then (R1reduced.j0 k a0 l1 l2 t637 true) else (if 0 < (t637.length : Int) then (R1reduced.j0 k a0 l1 l2 t637 (decide ((rd t637 0) > 1))) else (none))))
set_option maxHeartbeats 8000000 in
set_option maxRecDepth 100000 in
theorem R1reduced.calls (k : Nat) (a0 : Bool) (P1_ : Nat → Prop) (A1 : Option Addr) (c1 : Nat) (l1 : List Int) (P2_ : Nat → Prop) (A2 : Option Addr) (c2 : Nat) (l2 : List Int) (r1 : Bool) (r2 r3 : ByteArray) (w : World) (hs1 : Kd.V (Kd.int .u32) 86 w w.heap.size (fun k_ => P1_ k_) (.slice A1 l1.length c1) l1) (hs2 : Kd.V (Kd.int .u32) 86 w w.heap.size (fun k_ => P2_ k_) (.slice A2 l2.length c2) l2) (H : R1reduced.f k a0 l1 l2 = some (r1, r2, r3)) :
 Calls Tryd.prog 54 #[.bool a0, .slice A1 l1.length c1, .slice A2 l2.length c2] w fun e w' => e = .returned (.agg #[.bool r1, .string r2, .string r3]) ∧ Below w.heap.size w w' := by
 have hu1 := Tryd.underlying29
 have O1 := Aside0.mk (show Kd.V (Kd.int .u32) 86 w w.heap.size (fun k_ => ((P1_ k_ ∨ P2_ k_) ∨ w.heap.size ≤ k_)) (.slice A1 l1.length c1) l1 from Kd.V_mono hs1 (fun k_ hk => .inl (.inl hk)))
 have O2 := Aside0.mk (show Kd.V (Kd.int .u32) 86 w w.heap.size (fun k_ => ((P1_ k_ ∨ P2_ k_) ∨ w.heap.size ≤ k_)) (.slice A2 l2.length c2) l2 from Kd.V_mono hs2 (fun k_ hk => .inl (.inr hk)))
 have HB := Aside0.mk (Below.refl w.heap.size w)
 unfold R1reduced.f at H
 by_cases c3 : (l1.length : Int) = 0
 ·rw [if_pos c3] at H
  have c3b0 := beq_iff_eq.mpr c3
  have c3b1 : ((l1.length : Int) != 0) = false := bne_eq_false_iff_eq.mpr c3
  clear c3
  simp only [Option.some.injEq, Prod.mk.injEq] at H
  obtain ⟨rfl, rfl, rfl⟩ := H
  go_enter Tryd.func54, Tryd.ntmps54
  go_wp2_with (refine bxZ w 6 29 fun g1 w1 B1 G1 hg hb _ => ?_; replace O1 := Aside0.mk (Kd.V_below (Kd.V_elderB zq14 g1 (Nat.le_of_eq hg.symm)) hb); replace O2 := Aside0.mk (Kd.V_below (Kd.V_elderB zq28 g1 (Nat.le_of_eq hg.symm)) hb); replace HB := sB hb; clear hb hg; obtain ⟨_, _, _, _, _, _⟩ := xB3 B1)
  refine pR 29 #[.bool false, .string (⟨#[]⟩ : ByteArray), .string (⟨#[]⟩ : ByteArray)] B1 Tryd.underlying29 ?_
  exact ⟨zE, zH⟩
 ·rw [if_neg c3] at H
  have c3b0 := beq_eq_false_iff_ne.mpr c3
  have c3b1 := bne_iff_ne.mpr c3
  have c3b2 : ¬ (l1 = []) := fun h_ => c3 (by rw [h_]; rfl)
  replace ⟨t1, A3, H⟩ := bS H
  have HC8 := Aside0.mk H
  clear H
  go_enter Tryd.func54, Tryd.ntmps54
  go_upto_region 4 with (first | (refine bxZ w 6 29 fun g1 w1 B1 G1 hg hb _ => ?_; replace O1 := Aside0.mk (Kd.V_below (Kd.V_elderB zq14 g1 (Nat.le_of_eq hg.symm)) hb); replace O2 := Aside0.mk (Kd.V_below (Kd.V_elderB zq28 g1 (Nat.le_of_eq hg.symm)) hb); replace HB := sB hb; clear hb hg) | (refine gR 15 Tryd.func75 (R1common.calls k (fun k_ => (((P1_ k_ ∨ P2_ k_) ∨ w.heap.size ≤ k_) ∧ k_ ≠ g1)) _ _ l1 (fun k_ => (((P1_ k_ ∨ P2_ k_) ∨ w.heap.size ≤ k_) ∧ k_ ≠ g1)) _ _ l2 t1 _ ?side1 ?side2 A3.out) fun v1 w2 ho0 hb => ?_; (case side1 => exact O1.out); (case side2 => exact O2.out); have O3 := Aside0.mk (Kd.V_lower (Kd.V_mono (ok' := fun k_ => ((P1_ k_ ∨ P2_ k_) ∨ w.heap.size ≤ k_) ∧ k_ ≠ g1) ho0 (fun k_ hk_ => ⟨Or.elim hk_ (fun hs_ => Or.elim hs_ (fun hs_ => hs_.1) (fun hs_ => hs_.1)) (fun hn_ => (.inr (Nat.le_trans (below_size zH) hn_))), Or.elim hk_ (fun hs_ => Or.elim hs_ (fun hs_ => hs_.2) (fun hs_ => hs_.2)) (fun hn_ => (Kd.freshB (g := g1) (o := .cells #[.bool false, .string (⟨#[]⟩ : ByteArray), .string (⟨#[]⟩ : ByteArray)] 29 (0, 0)) (by (with_reducible repeat (first | refine blk_drewN ?_ _ | refine blk_drew ?_ | refine blk_alloc ?_ _)); exact B1.out) k_ hn_))⟩)) (below_size zH)); replace O1 := vB O1 hb; replace O2 := vB O2 hb; replace B1 := bB B1 hb; replace HB := sB hb; (try clear hb); (try clear ho0)))
  (try simp only [Act.put, List.setIfInBounds_toArray, List.set_cons_zero, List.set_cons_succ])
  go_cut [24] (fun v2 wc => ∃ (kq : Nat) (x1 : Bool), v2 = .bool x1 ∧ Aside0 (R1reduced.j0 kq a0 l1 l2 t1 x1 = some (r1, r2, r3)) ∧ Aside0 (kq ≤ k) ∧ Aside0 (Kd.V (Kd.int .u32) 86 wc w.heap.size (fun k_ => ((P1_ k_ ∨ P2_ k_) ∨ w.heap.size ≤ k_) ∧ k_ ≠ g1) (.slice A1 l1.length c1) l1) ∧ Aside0 (Kd.V (Kd.int .u32) 86 wc w.heap.size (fun k_ => ((P1_ k_ ∨ P2_ k_) ∨ w.heap.size ≤ k_) ∧ k_ ≠ g1) (.slice A2 l2.length c2) l2) ∧ Aside0 (Kd.V (Kd.int .u32) 86 wc w.heap.size (fun k_ => ((P1_ k_ ∨ P2_ k_) ∨ w.heap.size ≤ k_) ∧ k_ ≠ g1) v1 t1) ∧ Aside0 (wc.heap[g1]? = some (.cells #[.bool false, .string (⟨#[]⟩ : ByteArray), .string (⟨#[]⟩ : ByteArray)] 29 (0, 0))) ∧ Aside0 (Below w.heap.size w wc))
  case first =>
   have H := HC8.out
   clear HC8
   by_cases c4 : (t1.length : Int) > 1
   ·rw [if_pos c4] at H
    have c4b0 := decide_eq_true c4
    have c4b1 : decide (1 < t1.length) = true := decide_eq_true (by omega)
    clear c4
    (first | rw [c4b0] | (simp only [i64_w, i32_w]; rw [c4b0]) | rw [c4b1] | skip)
    have H' := Aside0.mk H
    clear H
    obtain ⟨P1, d1, u1⟩ := Kd.V_slice O3.out
    subst u1
    go_wp2
    go_meet
    case rel => exact ⟨_, (true), zq1, H', ⟨zq7⟩, ⟨zV⟩, ⟨zV⟩, ⟨zV⟩, ⟨bC B1⟩, ⟨zH⟩⟩
   ·rw [if_neg c4] at H
    have c4b0 := decide_eq_false c4
    have c4b1 : decide (1 < t1.length) = false := decide_eq_false (by omega)
    clear c4
    (first | rw [c4b0] | (simp only [i64_w, i32_w]; rw [c4b0]) | rw [c4b1] | skip)
    replace H := of_ite H
    obtain ⟨c5, H⟩ := H
    have c5b0 := decide_eq_true c5
    have c5b1 : decide (0 < t1.length) = true := decide_eq_true (by omega)
    clear c5
    have H' := Aside0.mk H
    clear H
    obtain ⟨P1, d1, u1⟩ := Kd.V_slice O3.out
    subst u1
    obtain ⟨ad1, e1, hx1, p1, q1⟩ := atI (Kd.V_reads' O3.out).2.2 0
    cases e1
    have qi640 : (0 < t1.length) = True := eq_true (by have := of_eq_true q1; omega)
    (try rw [show ((0 : Int)).toNat = 0 from rfl] at hx1)
    (try rw [Addr.add_zero'] at hx1)
    go_wp2
    go_meet
    case rel => exact ⟨_, (decide ((rd t1 0) > 1)), zq1, H', ⟨zq7⟩, ⟨zV⟩, ⟨zV⟩, ⟨zV⟩, ⟨bC B1⟩, ⟨zH⟩⟩
  case rest =>
   clear HC8
   (try clear qi6); (try clear c5); (try clear c4); (try clear c4b0); (try clear c4b1); (try clear c6); (try clear c6b0); (try clear c6b1); (try clear cz1); (try clear cz2); (try clear cz3); (try clear fz1); (try clear fz2); (try clear fz3); (try clear hx1); (try clear p1); (try clear q1)
   obtain ⟨kq, x1, rfl, HA, HJ7, HO_1, HO_2, HO_7, B1, HB⟩ := hcut
   cases kq with
   | zero => exact absurd HA.out (by simp [R1reduced.j0])
   | succ kj7 =>
    have H := HA.out
    clear HA
    simp only [R1reduced.j0] at H
    have HC15 := Aside0.mk H
    clear H
    go_upto_if 24 with (fail)
    go_cut [1, 2] (fun v3 v4 wc => ∃ (kq : Nat) (x2 : List Int) (x3 : List Int), Aside0 (R1reduced.j1 kq a0 x2 x3 = some (r1, r2, r3)) ∧ Aside0 (kq ≤ kj7) ∧ Aside0 (Kd.V (Kd.int .u32) 86 wc w.heap.size (fun k_ => ((P1_ k_ ∨ P2_ k_) ∨ w.heap.size ≤ k_) ∧ k_ ≠ g1) v3 x2) ∧ Aside0 (Kd.V (Kd.int .u32) 86 wc w.heap.size (fun k_ => ((P1_ k_ ∨ P2_ k_) ∨ w.heap.size ≤ k_) ∧ k_ ≠ g1) v4 x3) ∧ Aside0 (wc.heap[g1]? = some (.cells #[.bool false, .string (⟨#[]⟩ : ByteArray), .string (⟨#[]⟩ : ByteArray)] 29 (0, 0))) ∧ Aside0 (Below w.heap.size w wc))
    case first =>
     have H := HC15.out
     clear HC15
     by_cases c7 : x1 = true
     ·subst c7
      rw [if_pos rfl] at H
      replace ⟨⟨t2, t3⟩, A4, H⟩ := bS H
      (try dsimp only at H)
      replace ⟨⟨t4, t5⟩, A5, H⟩ := bS H
      (try dsimp only at H)
      have H' := Aside0.mk H
      clear H
      obtain ⟨P1, d1, u1⟩ := Kd.V_slice HO_7.out
      subst u1
      go_wp2_with (first | (refine goesLA 28 Tryd.func76 #[.slice A1 l1.length c1, .slice P1 t1.length d1] ?_; (with_reducible refine (R1divide.calls kj7 (fun k_ => (((P1_ k_ ∨ P2_ k_) ∨ w.heap.size ≤ k_) ∧ k_ ≠ g1)) _ _ l1 _ _ t1 t2 t3 _ ?side1 ?side2 ?side3 A4.out).mono ?_); (case side1 => exact HO_1.out); (case side2 => exact sC (Kd.V_reads' HO_7.out).2.2); (case side3 => exact (Kd.V_reads' HO_7.out).2.1); rintro e w3 ⟨v5, v6, rfl, ho0, ho1, hb⟩; refine ⟨_, rfl, ?_⟩; have O4 := Aside0.mk (Kd.V_lower (Kd.V_mono (ok' := fun k_ => ((P1_ k_ ∨ P2_ k_) ∨ w.heap.size ≤ k_) ∧ k_ ≠ g1) ho0 (fun k_ hk_ => ⟨Or.elim hk_ (fun hs_ => hs_.1) (fun hn_ => (.inr (Nat.le_trans (below_size zH) hn_))), Or.elim hk_ (fun hs_ => hs_.2) (fun hn_ => (Kd.freshB (g := g1) (o := .cells #[.bool false, .string (⟨#[]⟩ : ByteArray), .string (⟨#[]⟩ : ByteArray)] 29 (0, 0)) (by (with_reducible repeat (first | refine blk_drewN ?_ _ | refine blk_drew ?_ | refine blk_alloc ?_ _)); exact B1.out) k_ hn_))⟩)) (below_size zH)); have O5 := Aside0.mk (Kd.V_lower (Kd.V_mono (ok' := fun k_ => ((P1_ k_ ∨ P2_ k_) ∨ w.heap.size ≤ k_) ∧ k_ ≠ g1) ho1 (fun k_ hk_ => ⟨Or.elim hk_ (fun hs_ => hs_.1) (fun hn_ => (.inr (Nat.le_trans (below_size zH) hn_))), Or.elim hk_ (fun hs_ => hs_.2) (fun hn_ => (Kd.freshB (g := g1) (o := .cells #[.bool false, .string (⟨#[]⟩ : ByteArray), .string (⟨#[]⟩ : ByteArray)] 29 (0, 0)) (by (with_reducible repeat (first | refine blk_drewN ?_ _ | refine blk_drew ?_ | refine blk_alloc ?_ _)); exact B1.out) k_ hn_))⟩)) (below_size zH)); replace HO_1 := vB HO_1 hb; replace HO_2 := vB HO_2 hb; replace HO_7 := vB HO_7 hb; replace B1 := bB B1 hb; replace HB := sB hb; (try clear hb); (try clear ho0); (try clear ho1)) | (refine goesLA 34 Tryd.func76 #[.slice A2 l2.length c2, .slice P1 t1.length d1] ?_; (with_reducible refine (R1divide.calls kj7 (fun k_ => (((P1_ k_ ∨ P2_ k_) ∨ w.heap.size ≤ k_) ∧ k_ ≠ g1)) _ _ l2 _ _ t1 t4 t5 _ ?side1 ?side2 ?side3 A5.out).mono ?_); (case side1 => exact HO_2.out); (case side2 => exact sC (Kd.V_reads' HO_7.out).2.2); (case side3 => exact (Kd.V_reads' HO_7.out).2.1); rintro e w4 ⟨v7, v8, rfl, ho0, ho1, hb⟩; refine ⟨_, rfl, ?_⟩; have O6 := Aside0.mk (Kd.V_lower (Kd.V_mono (ok' := fun k_ => ((P1_ k_ ∨ P2_ k_) ∨ w.heap.size ≤ k_) ∧ k_ ≠ g1) ho0 (fun k_ hk_ => ⟨Or.elim hk_ (fun hs_ => hs_.1) (fun hn_ => (.inr (Nat.le_trans (below_size zH) hn_))), Or.elim hk_ (fun hs_ => hs_.2) (fun hn_ => (Kd.freshB (g := g1) (o := .cells #[.bool false, .string (⟨#[]⟩ : ByteArray), .string (⟨#[]⟩ : ByteArray)] 29 (0, 0)) (by (with_reducible repeat (first | refine blk_drewN ?_ _ | refine blk_drew ?_ | refine blk_alloc ?_ _)); exact B1.out) k_ hn_))⟩)) (below_size zH)); have O7 := Aside0.mk (Kd.V_lower (Kd.V_mono (ok' := fun k_ => ((P1_ k_ ∨ P2_ k_) ∨ w.heap.size ≤ k_) ∧ k_ ≠ g1) ho1 (fun k_ hk_ => ⟨Or.elim hk_ (fun hs_ => hs_.1) (fun hn_ => (.inr (Nat.le_trans (below_size zH) hn_))), Or.elim hk_ (fun hs_ => hs_.2) (fun hn_ => (Kd.freshB (g := g1) (o := .cells #[.bool false, .string (⟨#[]⟩ : ByteArray), .string (⟨#[]⟩ : ByteArray)] 29 (0, 0)) (by (with_reducible repeat (first | refine blk_drewN ?_ _ | refine blk_drew ?_ | refine blk_alloc ?_ _)); exact B1.out) k_ hn_))⟩)) (below_size zH)); replace HO_1 := vB HO_1 hb; replace HO_2 := vB HO_2 hb; replace HO_7 := vB HO_7 hb; replace O4 := vB O4 hb; replace O5 := vB O5 hb; replace B1 := bB B1 hb; replace HB := sB hb; (try clear hb); (try clear ho0); (try clear ho1)))
      go_meet
      case rel => exact ⟨_, (t2), (t4), H', ⟨by have := HJ7.out; first | omega | exact Nat.le_refl _⟩, ⟨zV⟩, ⟨zV⟩, ⟨bC B1⟩, ⟨zH⟩⟩
     ·replace c7 := Bool.eq_false_iff.mpr c7
      subst c7
      rw [if_neg (show ¬ (false = true) by decide)] at H
      have H' := Aside0.mk H
      clear H
      go_wp2
      go_meet
      case rel => exact ⟨_, (l1), (l2), H', ⟨by have := HJ7.out; first | omega | exact Nat.le_refl _⟩, ⟨zV⟩, ⟨zV⟩, ⟨bC B1⟩, ⟨zH⟩⟩
    case rest =>
     clear HC15
     (try clear qi6); (try clear c5); (try clear c4); (try clear c4b0); (try clear c4b1); (try clear c6); (try clear c6b0); (try clear c6b1); (try clear c7); (try clear cz1); (try clear cz2); (try clear cz3); (try clear fz1); (try clear fz2); (try clear fz3); (try clear hx1); (try clear p2); (try clear p3); (try clear p1); (try clear q2); (try clear q1)
     obtain ⟨kq, x2, x3, HA, HJ14, HO_1, HO_2, B1, HB⟩ := hcut
     cases kq with
     | zero => exact absurd HA.out (by simp [R1reduced.j1])
     | succ kj14 =>
      have H := HA.out
      clear HA
      simp only [R1reduced.j1] at H
      replace ⟨t2, A4, H⟩ := bS H
      by_cases c8 : (x3.length : Int) > 1
      ·rw [if_pos c8] at H
       have c8b0 := decide_eq_true c8
       have c8b1 : decide (1 < x3.length) = true := decide_eq_true (by omega)
       clear c8
       replace ⟨t3, A5, H⟩ := bS H
       simp only [Option.some.injEq, Prod.mk.injEq] at H
       obtain ⟨rfl, rfl, rfl⟩ := H
       obtain ⟨P1, d1, u1⟩ := Kd.V_slice HO_1.out
       subst u1
       go_wp2_with (first | (refine gB 39 Tryd.func77 (R1text.calls kj14 _ _ x2 t2 _ ?side1 ?side2 A4.out) fun w3 hb HB => ?_; (case side1 => exact sC (Kd.V_reads' HO_1.out).2.2); (case side2 => exact (Kd.V_reads' HO_1.out).2.1); replace HO_1 := vB HO_1 hb; replace HO_2 := vB HO_2 hb; replace B1 := bB B1 hb; clear hb) | (refine bxZ w 8 29 fun g2 w4 B2 G2 hg hb _ => ?_; obtain ⟨N1, N2⟩ := nP B1 hg; replace HO_1 := Aside0.mk (Kd.V_below (Kd.V_elderB zq56 g2 (Nat.le_of_eq hg.symm)) hb); replace HO_2 := Aside0.mk (Kd.V_below (Kd.V_elderB zq57 g2 (Nat.le_of_eq hg.symm)) hb); replace B1 := bB B1 hb; replace HB := sB hb; clear hb hg; have m1 := N2; have n1 := N1; obtain ⟨_, _, _, _, _, _⟩ := xB3 B2; obtain ⟨P2, d2, u2⟩ := Kd.V_slice HO_2.out; subst u2) | (refine gB 51 Tryd.func77 (R1text.calls kj14 _ _ x3 t3 _ ?side1 ?side2 A5.out) fun w5 hb _ => ?_; (case side1 => refine (Kd.V_reads' (e := 86) (base := w.heap.size) (ok := fun k_ => ((((P1_ k_ ∨ P2_ k_) ∨ w.heap.size ≤ k_) ∧ k_ ≠ g1) ∧ k_ ≠ g2)) (n := x3.length) (c := d2) ?_).2.2; exact zq37); (case side2 => exact (Kd.V_reads' HO_2.out).2.1); replace HO_1 := Aside0.mk (Kd.V_below zq62 hb); replace HO_2 := Aside0.mk (Kd.V_below zq37 hb); replace B1 := bV B1 hb; replace B2 := bV B2 hb; replace HB := sB hb; (try clear hb); obtain ⟨_, _, _, _, _, _⟩ := xB3 B2; obtain ⟨_, _, _, _, _, _⟩ := xB3 B1))
       refine pR 29 #[.bool a0, .string t2, .string t3] B1 Tryd.underlying29 ?_
       exact ⟨zE, zH⟩
      ·rw [if_neg c8] at H
       have c8b0 := decide_eq_false c8
       have c8b1 : decide (1 < x3.length) = false := decide_eq_false (by omega)
       clear c8
       replace H := of_ite H
       obtain ⟨c9, H⟩ := H
       have c9b0 := decide_eq_true c9
       have c9b1 : decide (0 < x3.length) = true := decide_eq_true (by omega)
       clear c9
       replace H := iL H
       rcases H with ⟨c10b0, H⟩ | ⟨c10b0, H⟩
       ·replace ⟨t3, A5, H⟩ := bS H
        simp only [Option.some.injEq, Prod.mk.injEq] at H
        obtain ⟨rfl, rfl, rfl⟩ := H
        obtain ⟨P1, d1, u1⟩ := Kd.V_slice HO_1.out
        subst u1
        go_wp2_with (first | (refine gB 39 Tryd.func77 (R1text.calls kj14 _ _ x2 t2 _ ?side1 ?side2 A4.out) fun w3 hb HB => ?_; (case side1 => exact sC (Kd.V_reads' HO_1.out).2.2); (case side2 => exact (Kd.V_reads' HO_1.out).2.1); replace HO_1 := vB HO_1 hb; replace HO_2 := vB HO_2 hb; replace B1 := bB B1 hb; clear hb) | (refine bxZ w 8 29 fun g2 w4 B2 G2 hg hb _ => ?_; obtain ⟨N1, N2⟩ := nP B1 hg; replace HO_1 := Aside0.mk (Kd.V_below (Kd.V_elderB zq56 g2 (Nat.le_of_eq hg.symm)) hb); replace HO_2 := Aside0.mk (Kd.V_below (Kd.V_elderB zq57 g2 (Nat.le_of_eq hg.symm)) hb); replace B1 := bB B1 hb; replace HB := sB hb; clear hb hg; have m1 := N2; have n1 := N1; obtain ⟨_, _, _, _, _, _⟩ := xB3 B2; obtain ⟨P2, d2, u2⟩ := Kd.V_slice HO_2.out; subst u2; have p4 : 0 ≤ (0 : Int) := (by omega); have q3 : 0 < (x3.length : Int) := of_decide_eq_true zq0; obtain ⟨ad1, e1, hx2⟩ := Kd.at_int (Kd.V_reads' HO_2.out).2.2 0 p4 q3; cases e1; have qi656 : (0 < x3.length) = True := eq_true (by omega); (try rw [show ((0 : Int)).toNat = 0 from rfl] at hx2); (try rw [Addr.add_zero'] at hx2); have hn656_0 : ad1.block ≠ g2 := Kd.foot_ne (Kd.C_foot_ownV HO_2.out (fun _ hk => hk.2)) (by omega) (by decide); have hn656_1 : ad1.block ≠ g2 := Kd.foot_ne (Kd.C_foot_ownV HO_2.out (fun _ hk => hk.2)) (by omega) (by decide); have hn656_2 : ad1.block ≠ g2 := Kd.foot_ne (Kd.C_foot_ownV HO_2.out (fun _ hk => hk.2)) (by omega) (by decide); replace hx2 := (cell_far (p := ⟨g2, 0, none⟩) (by first | (rw [add_block]; exact hn656_0) | (show (Addr.add _ _).block ≠ _; rw [add_block]; exact hn656_0) | exact hn656_0) (.bool a0)).trans hx2; replace hx2 := (cell_far (p := ⟨g2, 1, none⟩) (by first | (rw [add_block]; exact hn656_1) | (show (Addr.add _ _).block ≠ _; rw [add_block]; exact hn656_1) | exact hn656_1) (.string t2)).trans hx2; replace hx2 := (cell_far (p := ⟨g2, 2, none⟩) (by first | (rw [add_block]; exact hn656_2) | (show (Addr.add _ _).block ≠ _; rw [add_block]; exact hn656_2) | exact hn656_2) (.string (⟨#[]⟩ : ByteArray))).trans hx2; clear hn656_0; clear hn656_1; clear hn656_2; replace p4 := eq_true p4; replace q3 := eq_true q3) | (refine gB 51 Tryd.func77 (R1text.calls kj14 _ _ x3 t3 _ ?side1 ?side2 A5.out) fun w5 hb _ => ?_; (case side1 => refine (Kd.V_reads' (e := 86) (base := w.heap.size) (ok := fun k_ => ((((P1_ k_ ∨ P2_ k_) ∨ w.heap.size ≤ k_) ∧ k_ ≠ g1) ∧ k_ ≠ g2)) (n := x3.length) (c := d2) ?_).2.2; exact zq37); (case side2 => exact (Kd.V_reads' HO_2.out).2.1); replace HO_1 := Aside0.mk (Kd.V_below zq62 hb); replace HO_2 := Aside0.mk (Kd.V_below zq37 hb); replace B1 := bV B1 hb; replace B2 := bV B2 hb; replace HB := sB hb; (try clear hb); obtain ⟨_, _, _, _, _, _⟩ := xB3 B2; obtain ⟨_, _, _, _, _, _⟩ := xB3 B1))
        refine pR 29 #[.bool a0, .string t2, .string t3] B1 Tryd.underlying29 ?_
        exact ⟨zE, zH⟩
       ·simp only [Option.some.injEq, Prod.mk.injEq] at H
        obtain ⟨rfl, rfl, rfl⟩ := H
        obtain ⟨P1, d1, u1⟩ := Kd.V_slice HO_1.out
        subst u1
        go_wp2_with (first | (refine gB 39 Tryd.func77 (R1text.calls kj14 _ _ x2 t2 _ ?side1 ?side2 A4.out) fun w3 hb HB => ?_; (case side1 => exact sC (Kd.V_reads' HO_1.out).2.2); (case side2 => exact (Kd.V_reads' HO_1.out).2.1); replace HO_1 := vB HO_1 hb; replace HO_2 := vB HO_2 hb; replace B1 := bB B1 hb; clear hb) | (refine bxZ w 8 29 fun g2 w4 B2 G2 hg hb _ => ?_; obtain ⟨N1, N2⟩ := nP B1 hg; replace HO_1 := Aside0.mk (Kd.V_below (Kd.V_elderB zq56 g2 (Nat.le_of_eq hg.symm)) hb); replace HO_2 := Aside0.mk (Kd.V_below (Kd.V_elderB zq57 g2 (Nat.le_of_eq hg.symm)) hb); replace B1 := bB B1 hb; replace HB := sB hb; clear hb hg; have m1 := N2; have n1 := N1; obtain ⟨_, _, _, _, _, _⟩ := xB3 B2; obtain ⟨P2, d2, u2⟩ := Kd.V_slice HO_2.out; subst u2; have p4 : 0 ≤ (0 : Int) := (by omega); have q3 : 0 < (x3.length : Int) := of_decide_eq_true zq0; obtain ⟨ad1, e1, hx2⟩ := Kd.at_int (Kd.V_reads' HO_2.out).2.2 0 p4 q3; cases e1; have qi656 : (0 < x3.length) = True := eq_true (by omega); (try rw [show ((0 : Int)).toNat = 0 from rfl] at hx2); (try rw [Addr.add_zero'] at hx2); have hn656_0 : ad1.block ≠ g2 := Kd.foot_ne (Kd.C_foot_ownV HO_2.out (fun _ hk => hk.2)) (by omega) (by decide); have hn656_1 : ad1.block ≠ g2 := Kd.foot_ne (Kd.C_foot_ownV HO_2.out (fun _ hk => hk.2)) (by omega) (by decide); have hn656_2 : ad1.block ≠ g2 := Kd.foot_ne (Kd.C_foot_ownV HO_2.out (fun _ hk => hk.2)) (by omega) (by decide); replace hx2 := (cell_far (p := ⟨g2, 0, none⟩) (by first | (rw [add_block]; exact hn656_0) | (show (Addr.add _ _).block ≠ _; rw [add_block]; exact hn656_0) | exact hn656_0) (.bool a0)).trans hx2; replace hx2 := (cell_far (p := ⟨g2, 1, none⟩) (by first | (rw [add_block]; exact hn656_1) | (show (Addr.add _ _).block ≠ _; rw [add_block]; exact hn656_1) | exact hn656_1) (.string t2)).trans hx2; replace hx2 := (cell_far (p := ⟨g2, 2, none⟩) (by first | (rw [add_block]; exact hn656_2) | (show (Addr.add _ _).block ≠ _; rw [add_block]; exact hn656_2) | exact hn656_2) (.string (⟨#[]⟩ : ByteArray))).trans hx2; clear hn656_0; clear hn656_1; clear hn656_2; replace p4 := eq_true p4; replace q3 := eq_true q3; obtain ⟨_, _, _, _, _, _⟩ := xB3 B1))
        refine pR 29 #[.bool a0, .string t2, .string (⟨#[]⟩ : ByteArray)] B1 Tryd.underlying29 ?_
        exact ⟨zE, zH⟩
end Go.Proofs.YtggfilmdfpmbmaaDoor.QN
end
section
namespace Go.Proofs.YtggfilmdfpmbmaaDoor.QN
open Go.RowKit Go.Proofs.YtggfilmdfpmbmaaDoorW.PrintWords Go.Proofs.YtggfilmdfpmbmaaDoorW.PrintLast Go.Proofs.YtggfilmdfpmbmaaDoorW.PrintMore
attribute [local go_sem] max2_int min2_int max_two min_two max_three min_three max_four min_four
set_option linter.unusedVariables false
set_option linter.unusedSimpArgs false
set_option maxHeartbeats 8000000
set_option maxRecDepth 100000
def R1Int.f (k : Nat) (a0 : Int) : Option (Bool × ByteArray × ByteArray) := (R1size.f a0).bind fun t757 => ((R1FromUint.f k t757).bind fun t758 => (some (decide (a0 < 0), t758, (⟨#[]⟩ : ByteArray))))
theorem R1Int.calls (k : Nat) (a0 : Int) (r1 : Bool) (r2 r3 : ByteArray) (w : World) (H : R1Int.f k a0 = some (r1, r2, r3)) :
 Calls Tryd.prog 40 #[.int .i64 a0] w fun e w' => e = .returned (.agg #[.bool r1, .string r2, .string r3]) ∧ Below w.heap.size w w' := by
 have hu1 := Tryd.underlying29
 have HB := Aside0.mk (Below.refl w.heap.size w)
 unfold R1Int.f at H
 replace ⟨t1, A1, H⟩ := bS H
 replace ⟨t2, A2, H⟩ := bS H
 simp only [Option.some.injEq, Prod.mk.injEq] at H
 obtain ⟨rfl, rfl, rfl⟩ := H
 go_enter Tryd.func40, Tryd.ntmps40
 go_wp2_with (first | (refine bxZ w 2 29 fun g1 w1 B1 G1 hg hb HB => ?_; clear hb hg) | (refine gF 6 Tryd.func61 (R1size.calls a0 t1 _ A1.out) fun w1 hb HB => ?_; replace B1 := bB B1 hb; clear hb) | (refine gB 7 Tryd.func60 (R1FromUint.calls _ _ _ _ A2.out) fun w2 hb HB => ?_; replace B1 := bB B1 hb; clear hb; obtain ⟨_, _, _, _, _, _⟩ := xB3 B1))
 refine pR 29 #[.bool (decide (a0 < 0)), .string t2, .string (⟨#[]⟩ : ByteArray)] B1 Tryd.underlying29 ?_
 exact ⟨zE, zH⟩
def R1Make.f (k : Nat) (a0 : Bool) (a1 a2 : ByteArray) : Option (Bool × ByteArray × ByteArray × Bool) := (R1limbs.f k a2).bind fun t760 => (if (t760.length : Int) = 0 then (some (false, (⟨#[]⟩ : ByteArray), (⟨#[]⟩ : ByteArray), false)) else ((R1limbs.f k a1).bind fun t763 => ((R1reduced.f k a0 t763 t760).bind fun bt766 => (some (bt766.1, bt766.2.1, bt766.2.2, true)))))
theorem R1Make.calls (k : Nat) (a0 : Bool) (a1 a2 : ByteArray) (r1 : Bool) (r2 r3 : ByteArray) (r4 : Bool) (w : World) (H : R1Make.f k a0 a1 a2 = some (r1, r2, r3, r4)) :
 Calls Tryd.prog 74 #[.bool a0, .string a1, .string a2] w fun e w' => e = .returned (.tuple #[.agg #[.bool r1, .string r2, .string r3], .bool r4]) ∧ Below w.heap.size w w' := by
 have hu1 := Tryd.underlying29
 have HB := Aside0.mk (Below.refl w.heap.size w)
 unfold R1Make.f at H
 replace ⟨t1, A1, H⟩ := bS H
 by_cases c1 : (t1.length : Int) = 0
 ·rw [if_pos c1] at H
  have c1b0 := beq_iff_eq.mpr c1
  have c1b1 : ((t1.length : Int) != 0) = false := bne_eq_false_iff_eq.mpr c1
  clear c1
  simp only [Option.some.injEq, Prod.mk.injEq] at H
  obtain ⟨rfl, rfl, rfl, rfl⟩ := H
  go_enter Tryd.func74, Tryd.ntmps74
  go_wp2_with (first | (refine bxZ w 6 29 fun g1 w1 B1 G1 hg hb HB => ?_; clear hb hg) | (refine gR 10 Tryd.func56 (R1limbs.calls _ _ _ _ A1.out) fun v1 w2 ho0 hb => ?_; have O1 := Aside0.mk (Kd.R_lower ho0 (below_size zH)); replace B1 := bB B1 hb; replace HB := sB hb; (try clear hb); (try clear ho0); obtain ⟨P1, d1, u1⟩ := Kd.R_slice O1.out; subst u1; obtain ⟨_, _, _, _, _, _⟩ := xB3 B1))
  refine pRt 29 #[.bool false, .string (⟨#[]⟩ : ByteArray), .string (⟨#[]⟩ : ByteArray)] B1 Tryd.underlying29 ?_
  exact ⟨zE, zH⟩
 ·rw [if_neg c1] at H
  have c1b0 := beq_eq_false_iff_ne.mpr c1
  have c1b1 := bne_iff_ne.mpr c1
  have c1b2 : ¬ (t1 = []) := fun h_ => c1 (by rw [h_]; rfl)
  replace ⟨t2, A2, H⟩ := bS H
  replace ⟨⟨t3, t4, t5⟩, A3, H⟩ := bS H
  (try dsimp only at H)
  simp only [Option.some.injEq, Prod.mk.injEq] at H
  obtain ⟨rfl, rfl, rfl, rfl⟩ := H
  go_enter Tryd.func74, Tryd.ntmps74
  go_wp2_with (first | (refine bxZ w 6 29 fun g1 w1 B1 G1 hg hb HB => ?_; clear hb hg) | (refine gR 10 Tryd.func56 (R1limbs.calls _ _ _ _ A1.out) fun v1 w2 ho0 hb => ?_; have O1 := Aside0.mk (Kd.R_lower ho0 (below_size zH)); replace B1 := bB B1 hb; replace HB := sB hb; (try clear hb); (try clear ho0); obtain ⟨P1, d1, u1⟩ := Kd.R_slice O1.out; subst u1) | (refine gR 17 Tryd.func56 (R1limbs.calls _ _ _ _ A2.out) fun v2 w3 ho0 hb => ?_; have O2 := Aside0.mk (Kd.R_lower (Kd.R_new' ho0 (Kd.R_lt zq2)) (below_size zH)); replace O1 := Aside0.mk (Kd.R_elder' zq2 (Kd.R_base ho0) hb); replace B1 := bB B1 hb; replace HB := sB hb; (try clear hb); (try clear ho0); obtain ⟨P2, d2, u2⟩ := Kd.R_slice O2.out; subst u2) | (refine gB 19 Tryd.func54 (R1reduced.calls k a0 (fun k_ => some k_ = (.slice P2 t2.length d2 : Value).ownBlock) _ _ t2 (fun k_ => some k_ = (.slice P1 t1.length d1 : Value).ownBlock) _ _ t1 t3 t4 t5 _ ?side1 ?side2 A3.out) fun w4 hb HB => ?_; (case side1 => exact Kd.R_V (Kd.R_tight rfl (Kd.R_types (O2.out) B1.out (by decide)))); (case side2 => exact Kd.R_V (Kd.R_tight rfl (Kd.R_types (O1.out) B1.out (by decide)))); replace O1 := rB O1 hb; replace O2 := rB O2 hb; replace B1 := bB B1 hb; clear hb; obtain ⟨_, _, _, _, _, _⟩ := xB3 B1))
  refine pRt 29 #[.bool t3, .string t4, .string t5] B1 Tryd.underlying29 ?_
  exact ⟨zE, zH⟩
def R1Fraction.f (k : Nat) (a0 a1 : Int) : Option (Bool × ByteArray × ByteArray × Bool) := (R1size.f a0).bind fun t770 => ((R1FromUint.f k t770).bind fun t771 => ((R1size.f a1).bind fun t772 => ((R1FromUint.f k t772).bind fun t773 => ((R1Make.f k ((decide (a0 < 0)) != (decide (a1 < 0))) t771 t773).bind fun bt774 => (some (bt774.1, bt774.2.1, bt774.2.2.1, bt774.2.2.2))))))
theorem R1Fraction.calls (k : Nat) (a0 a1 : Int) (r1 : Bool) (r2 r3 : ByteArray) (r4 : Bool) (w : World) (H : R1Fraction.f k a0 a1 = some (r1, r2, r3, r4)) :
 Calls Tryd.prog 52 #[.int .i64 a0, .int .i64 a1] w fun e w' => e = .returned (.tuple #[.agg #[.bool r1, .string r2, .string r3], .bool r4]) ∧ Below w.heap.size w w' := by
 have hu1 := Tryd.underlying29
 have HB := Aside0.mk (Below.refl w.heap.size w)
 unfold R1Fraction.f at H
 replace ⟨t1, A1, H⟩ := bS H
 replace ⟨t2, A2, H⟩ := bS H
 replace ⟨t3, A3, H⟩ := bS H
 replace ⟨t4, A4, H⟩ := bS H
 replace ⟨⟨t5, t6, t7, t8⟩, A5, H⟩ := bS H
 (try dsimp only at H)
 simp only [Option.some.injEq, Prod.mk.injEq] at H
 obtain ⟨rfl, rfl, rfl, rfl⟩ := H
 go_enter Tryd.func52, Tryd.ntmps52
 go_wp2_with (first | (refine bxZ w 4 29 fun g1 w1 B1 G1 hg hb HB => ?_; clear hb hg) | (refine gF 12 Tryd.func61 (R1size.calls a0 t1 _ A1.out) fun w1 hb HB => ?_; replace B1 := bB B1 hb; clear hb) | (refine gB 13 Tryd.func60 (R1FromUint.calls _ _ _ _ A2.out) fun w2 hb HB => ?_; replace B1 := bB B1 hb; clear hb) | (refine gF 15 Tryd.func61 (R1size.calls a1 t3 _ A3.out) fun w2 hb HB => ?_; replace B1 := bB B1 hb; clear hb) | (refine gB 16 Tryd.func60 (R1FromUint.calls _ _ _ _ A4.out) fun w3 hb HB => ?_; replace B1 := bB B1 hb; clear hb) | (refine gB 17 Tryd.func74 (R1Make.calls _ _ _ _ _ _ _ _ _ A5.out) fun w4 hb HB => ?_; replace B1 := bB B1 hb; clear hb; obtain ⟨_, _, _, _, _, _⟩ := xB3 B1))
 refine pRt 29 #[.bool t5, .string t6, .string t7] B1 Tryd.underlying29 ?_
 exact ⟨zE, zH⟩
end Go.Proofs.YtggfilmdfpmbmaaDoor.QN
end
