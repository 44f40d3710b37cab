/-
  Steps and laws behind the statement that the claim's last text proves: the words of the walks, the walks of the Go functions (printed by a program of this session's own, then shortened by one), and what they compute. Conditions: stated at each theorem.
-/
import Derived.Test.YtggfilmdfpmbmaaGreatDoorP1
import Derived.Test.YtggfilmdfpmbmaaGreatDoorP3
import Derived.Test.YtggfilmdfpmbmaaGreatDoorP0
import Derived.Test.YtggfilmdfpmbmaaGreatDoorP2
import Derived.Test.YtggfilmdfpmbmaaGreatDoorP4
section
namespace Go.Proofs.YtggfilmdfpmbmaaGreatDoor.QN
open Go.RowKit Go.Proofs.YtggfilmdfpmbmaaGreatDoorW.PrintWords Go.Proofs.YtggfilmdfpmbmaaGreatDoorW.PrintLast Go.Proofs.YtggfilmdfpmbmaaGreatDoorW.PrintMore
attribute [local go_sem] max2_int min2_int max_two min_two max_three min_three max_four min_four
set_option linter.unusedVariables false
set_option linter.unusedSimpArgs false
set_option maxHeartbeats 8000000
set_option maxRecDepth 100000
def R1divide.f (k : Nat) (l0 l1 : List Int) : Option (List Int × List Int) := (R1order.f k l0 l1).bind fun t404 => (if t404 < 0 then (some (([] : List Int), l0)) else (if (l1.length : Int) = 1 then (if 0 < (l1.length : Int) then ((R1short.f k l0 (rd l1 0)).bind fun bt406 => ((R1strip.f k (([bt406.2] : List Int))).bind fun t413 => (some (bt406.1, t413)))) else (none)) else ((R1long.f k l0 l1).bind fun bt416 => (some (bt416.1, bt416.2)))))
theorem R1divide.calls (k : Nat) (P0_ : Nat → Prop) (A0 : Option Addr) (c0 : Nat) (l0 : List Int) (A1 : Option Addr) (c1 : Nat) (l1 r1 r2 : List Int) (w : World) (hs0 : Kd.V (Kd.int .u32) 80 w w.heap.size (fun k_ => P0_ k_) (.slice A0 l0.length c0) l0) (hr1 : Kd.C (Kd.int .u32) w A1 l1.length l1) (hc1 : l1.length ≤ c1) (H : R1divide.f k l0 l1 = some (r1, r2)) :
 Calls Tryz.prog 72 #[.slice A0 l0.length c0, .slice A1 l1.length c1] w fun e w' => ∃ v0_ v1_ : Value, e = .returned (.tuple #[v0_, v1_]) ∧ Kd.V (Kd.int .u32) 80 w' w.heap.size (fun k_ => (P0_ k_ ∨ w.heap.size ≤ k_)) v0_ r1 ∧ Kd.V (Kd.int .u32) 80 w' w.heap.size (fun k_ => (P0_ k_ ∨ w.heap.size ≤ k_)) v1_ r2 ∧ Below w.heap.size w w' := by
 have O1 := Aside0.mk (show Kd.V (Kd.int .u32) 80 w w.heap.size (fun k_ => (P0_ k_ ∨ w.heap.size ≤ k_)) (.slice A0 l0.length c0) l0 from Kd.V_mono hs0 (fun k_ hk => .inl hk))
 have HR1 := Aside0.mk hr1
 have HC1 := Aside0.mk hc1
 clear hr1 hc1
 have HB := Aside0.mk (Below.refl w.heap.size w)
 unfold R1divide.f at H
 replace ⟨t1, A2, H⟩ := bS H
 replace H := iL H
 rcases H with ⟨c2b0, H⟩ | ⟨c2b0, H⟩
 ·simp only [Option.some.injEq, Prod.mk.injEq] at H
  obtain ⟨rfl, rfl⟩ := H
  go_enter Tryz.func72, Tryz.ntmps72
  go_wp2_with (refine gD 10 Tryz.func49 (R1order.calls k _ _ l0 _ _ l1 t1 _ ?side1 ?side2 ?side3 ?side4 A2.out) fun nd => ?_; (case side1 => exact sC (Kd.V_reads' O1.out).2.2); (case side2 => exact (Kd.V_reads' O1.out).2.1); (case side3 => exact sC HR1.out); (case side4 => exact HC1.out))
  go_ret2
  exact ⟨_, _, zE, Kd.V_mono (Kd.R_V zq34) (fun k_ hk => by first | exact ⟨(.inr (hk.1)), hk.2⟩ | exact (.inr (hk))), zV, zH⟩
 ·replace H := iQ H
  rcases H with ⟨c3b0, c3b1, H⟩ | ⟨c3b0, c3b1, H⟩
  ·replace H := of_ite H
   obtain ⟨c4, H⟩ := H
   have c4b0 := decide_eq_true c4
   have c4b1 : decide (0 < l1.length) = true := decide_eq_true (by omega)
   clear c4
   replace ⟨⟨t2, t3⟩, A3, H⟩ := bS H
   (try dsimp only at H)
   generalize yh1 : (([t3] : List Int) : List Int) = y1 at H
   have Y1 := Aside0.mk yh1.symm; clear yh1
   replace ⟨t4, A4, H⟩ := bS H
   simp only [Option.some.injEq, Prod.mk.injEq] at H
   obtain ⟨rfl, rfl⟩ := H
   go_enter Tryz.func72, Tryz.ntmps72
   go_wp2_with (first | (refine gD 10 Tryz.func49 (R1order.calls k _ _ l0 _ _ l1 t1 _ ?side1 ?side2 ?side3 ?side4 A2.out) fun nd => ?_; (case side1 => exact sC (Kd.V_reads' O1.out).2.2); (case side2 => exact (Kd.V_reads' O1.out).2.1); (case side3 => exact sC HR1.out); (case side4 => exact HC1.out); have p1 : 0 ≤ (0 : Int) := (by omega); have q1 : 0 < (l1.length : Int) := of_decide_eq_true zq0; obtain ⟨ad1, e1, hx1⟩ := Kd.at_int HR1.out 0 p1 q1; cases e1; have qi405 : (0 < l1.length) = True := eq_true (by omega); (try rw [show ((0 : Int)).toNat = 0 from rfl] at hx1); (try rw [Addr.add_zero'] at hx1); replace p1 := eq_true p1; replace q1 := eq_true q1) | (refine gR 21 Tryz.func81 (R1short.calls _ _ _ _ _ _ _ _ ?side1 ?side2 A3.out) fun v1 w1 ho0 hb => ?_; (case side1 => exact sC (Kd.V_reads' O1.out).2.2); (case side2 => exact (Kd.V_reads' O1.out).2.1); have O2 := Aside0.mk (Kd.V_lower (Kd.V_mono (ok' := fun k_ => (P0_ k_ ∨ w.heap.size ≤ k_)) ho0 (fun k_ hk_ => (.inr (Nat.le_trans (below_size zH) hk_)))) (below_size zH)); replace O1 := vB O1 hb; replace HB := sB hb; (try clear hb); (try clear ho0)) | ((with_reducible refine gate_dst (N := 26) rfl ?_); refine Kd.R_lit (Kd.int .u32) _ 80 ?hg (N := 26) ?hd (xs := ([t3] : List Int)) (inner := [.int .u32 t3]) (ok := fun _ => True) (okp := fun _ => True) ?hr ?hp (fun _ hk => hk) trivial (Below.refl _ _) (Nat.le_refl _) (by simp) ?_; (case hd => rfl); (case hg => rfl); (case hr => first | (go_simp; done) | (go_simp; rfl)); (case hp => exact (Reps.one (show Kd.M (Kd.int .u32) _ _ _ t3 [.int .u32 t3] from rfl) (Reps.none _ _))); intro v2 w2 ho11 hb hg_ hnew_; clear hg_ hnew_; (first | rw [← Y1.out] at ho11 | (simp only [Int.reduceToNat] at ho11; rw [← Y1.out] at ho11)); have O3 := Aside0.mk (Kd.R_lower (Kd.R_newM (M := fun k_ => (w.heap.size ≤ k_)) ho11 (below_size zH) (fun k_ h_ => h_)) (below_size zH)); replace O1 := Aside0.mk (Kd.V_elder' zq16 (Kd.R_base ho11) hb); replace O2 := Aside0.mk (Kd.V_elder' zq28 (Kd.R_base ho11) hb); replace HB := sB hb; clear hb ho11; obtain ⟨P1, d1, u1⟩ := Kd.R_slice O3.out; subst u1) | (refine gR 27 Tryz.func70 (R1strip.calls k (fun k_ => some k_ = (.slice P1 y1.length d1 : Value).ownBlock) _ _ y1 t4 _ ?side1 A4.out) fun v3 w3 ho0 hb => ?_; (case side1 => exact Kd.R_V (Kd.R_tight rfl (O3.out))); have O4 := Aside0.mk (Kd.V_lower (Kd.V_mono (ok' := fun k_ => (P0_ k_ ∨ w.heap.size ≤ k_)) ho0 (fun k_ hk_ => Or.elim hk_ (fun hs_ => (.inr (((O3.out).1 k_ hs_.symm).1))) (fun hn_ => (.inr (Nat.le_trans (below_size zH) hn_))))) (below_size zH)); replace O1 := vB O1 hb; replace O2 := vB O2 hb; replace O3 := rB O3 hb; replace HB := sB hb; (try clear hb); (try clear ho0)))
   go_ret2
   exact ⟨_, _, zE, by (with_reducible repeat (first | apply Kd.V_alloc | apply Kd.V_drewN | apply Kd.V_drew)); exact Kd.V_mono O2.out (fun _ hk => hk.1), zV, zH⟩
  ·replace ⟨⟨t2, t3⟩, A3, H⟩ := bS H
   (try dsimp only at H)
   simp only [Option.some.injEq, Prod.mk.injEq] at H
   obtain ⟨rfl, rfl⟩ := H
   go_enter Tryz.func72, Tryz.ntmps72
   go_wp2_with (first | (refine gD 10 Tryz.func49 (R1order.calls k _ _ l0 _ _ l1 t1 _ ?side1 ?side2 ?side3 ?side4 A2.out) fun nd => ?_; (case side1 => exact sC (Kd.V_reads' O1.out).2.2); (case side2 => exact (Kd.V_reads' O1.out).2.1); (case side3 => exact sC HR1.out); (case side4 => exact HC1.out)) | (refine goesLA 30 Tryz.func82 #[.slice A0 l0.length c0, .slice A1 l1.length c1] ?_; (with_reducible refine (R1long.calls k _ _ l0 _ _ l1 t2 t3 _ ?side1 ?side2 ?side3 ?side4 A3.out).mono ?_); (case side1 => exact sC (Kd.V_reads' O1.out).2.2); (case side2 => exact (Kd.V_reads' O1.out).2.1); (case side3 => exact sC HR1.out); (case side4 => exact HC1.out); rintro e w1 ⟨v1, v2, rfl, ho0, ho1, hb⟩; refine ⟨_, rfl, ?_⟩; have O2 := Aside0.mk (Kd.V_lower (Kd.V_mono (ok' := fun k_ => (P0_ k_ ∨ w.heap.size ≤ k_)) ho0 (fun k_ hk_ => (.inr (Nat.le_trans (below_size zH) hk_)))) (below_size zH)); have O3 := Aside0.mk (Kd.V_lower (Kd.V_mono (ok' := fun k_ => (P0_ k_ ∨ w.heap.size ≤ k_)) ho1 (fun k_ hk_ => (.inr (Nat.le_trans (below_size zH) hk_)))) (below_size zH)); replace O1 := vB O1 hb; replace HB := sB hb; (try clear hb); (try clear ho0); (try clear ho1)))
   go_ret2
   exact ⟨_, _, zE, zV, zV, zH⟩
def R1common.l0 : Nat → List Int → List Int → Option (List Int)
 | 0, _, _ => none
 | k + 1, x0, x1 => if (x1.length : Int) > 0 then ((R1divide.f k x0 x1).bind fun bt422 => (R1common.l0 k x1 bt422.2)) else (some x0)
def R1common.f (k : Nat) (l0 l1 : List Int) : Option (List Int) := R1common.l0 k l0 l1
theorem R1common.calls (k : Nat) (P0_ : Nat → Prop) (A0 : Option Addr) (c0 : Nat) (l0 : List Int) (P1_ : Nat → Prop) (A1 : Option Addr) (c1 : Nat) (l1 r : List Int) (w : World) (hs0 : Kd.V (Kd.int .u32) 80 w w.heap.size (fun k_ => P0_ k_) (.slice A0 l0.length c0) l0) (hs1 : Kd.V (Kd.int .u32) 80 w w.heap.size (fun k_ => P1_ k_) (.slice A1 l1.length c1) l1) (H : R1common.f k l0 l1 = some r) :
 Calls Tryz.prog 71 #[.slice A0 l0.length c0, .slice A1 l1.length c1] w fun e w' => ∃ v0_ : Value, e = .returned (v0_) ∧ Kd.V (Kd.int .u32) 80 w' w.heap.size (fun k_ => ((P0_ k_ ∨ P1_ k_) ∨ w.heap.size ≤ k_)) v0_ r ∧ Below w.heap.size w w' := by
 have O1 := Aside0.mk (show Kd.V (Kd.int .u32) 80 w w.heap.size (fun k_ => ((P0_ k_ ∨ P1_ k_) ∨ w.heap.size ≤ k_)) (.slice A0 l0.length c0) l0 from Kd.V_mono hs0 (fun k_ hk => .inl (.inl hk)))
 have O2 := Aside0.mk (show Kd.V (Kd.int .u32) 80 w w.heap.size (fun k_ => ((P0_ k_ ∨ P1_ k_) ∨ w.heap.size ≤ k_)) (.slice A1 l1.length c1) l1 from Kd.V_mono hs1 (fun k_ hk => .inl (.inr hk)))
 have HB := Aside0.mk (Below.refl w.heap.size w)
 unfold R1common.f at H
 have H' := Aside0.mk H
 clear H
 go_enter Tryz.func71, Tryz.ntmps71
 go_wp2
 go_loopg [0, 1] k (fun kq v1 v2 w' => ∃ (x1 : List Int) (x2 : List Int), Aside0 (R1common.l0 kq x1 x2 = some r) ∧ Aside0 (kq ≤ k) ∧ Aside0 (Kd.V (Kd.int .u32) 80 w' w.heap.size (fun k_ => ((P0_ k_ ∨ P1_ k_) ∨ w.heap.size ≤ k_)) v1 x1) ∧ Aside0 (Kd.V (Kd.int .u32) 80 w' w.heap.size (fun k_ => ((P0_ k_ ∨ P1_ k_) ∨ w.heap.size ≤ k_)) v2 x2) ∧ Aside0 (Below w.heap.size w w'))
 case atStart => exact ⟨(l0), (l1), H', ⟨Nat.le_refl _⟩, ⟨zV⟩, ⟨zV⟩, ⟨zH⟩⟩
 case round =>
  clear H'
  obtain ⟨x1, x2, HA, HK1, HO_0, HO_1, HB⟩ := hrel
  cases gk with
  | zero => exact absurd HA.out (by simp [R1common.l0])
  | succ k1 =>
   have H := HA.out
   clear HA
   simp only [R1common.l0] at H
   by_cases c2 : (x2.length : Int) > 0
   ·rw [if_pos c2] at H
    have c2b0 := decide_eq_true c2
    have c2b1 : decide (0 < x2.length) = true := decide_eq_true (by omega)
    clear c2
    replace ⟨⟨t1, t2⟩, A2, H⟩ := bS H
    (try dsimp only at H)
    have H' := Aside0.mk H
    clear H
    obtain ⟨P1, d1, u1⟩ := Kd.V_slice HO_1.out
    subst u1
    obtain ⟨P2, d2, u2⟩ := Kd.V_slice HO_0.out
    subst u2
    go_wp2_with (refine goesLA 13 Tryz.func72 #[.slice P2 x1.length d2, .slice P1 x2.length d1] ?_; (with_reducible refine (R1divide.calls k1 (fun k_ => ((P0_ k_ ∨ P1_ k_) ∨ w.heap.size ≤ k_)) _ _ x1 _ _ x2 t1 t2 _ ?side1 ?side2 ?side3 A2.out).mono ?_); (case side1 => exact HO_0.out); (case side2 => exact sC (Kd.V_reads' HO_1.out).2.2); (case side3 => exact (Kd.V_reads' HO_1.out).2.1); rintro e w1 ⟨v3, v4, rfl, ho0, ho1, hb⟩; refine ⟨_, rfl, ?_⟩; have O3 := Aside0.mk (Kd.V_lower (Kd.V_mono (ok' := fun k_ => ((P0_ k_ ∨ P1_ k_) ∨ w.heap.size ≤ k_)) ho0 (fun k_ hk_ => Or.elim hk_ (fun hs_ => hs_) (fun hn_ => (.inr (Nat.le_trans (below_size zH) hn_))))) (below_size zH)); have O4 := Aside0.mk (Kd.V_lower (Kd.V_mono (ok' := fun k_ => ((P0_ k_ ∨ P1_ k_) ∨ w.heap.size ≤ k_)) ho1 (fun k_ hk_ => Or.elim hk_ (fun hs_ => hs_) (fun hn_ => (.inr (Nat.le_trans (below_size zH) hn_))))) (below_size zH)); replace HO_0 := vB HO_0 hb; replace HO_1 := vB HO_1 hb; replace HB := sB hb; (try clear hb); (try clear ho0); (try clear ho1))
    go_roundg k1
    case measure => have := HK1.out; omega
    case rel => exact ⟨(x2), (t2), H', ⟨zq4⟩, ⟨zV⟩, ⟨zV⟩, ⟨zH⟩⟩
   ·rw [if_neg c2] at H
    have c2b0 := decide_eq_false c2
    have c2b1 : decide (0 < x2.length) = false := decide_eq_false (by omega)
    clear c2
    obtain rfl := sI H
    obtain ⟨P1, d1, u1⟩ := Kd.V_slice HO_1.out
    subst u1
    go_wp2
    go_ret
    exact ⟨_, zE, zV, zH⟩
mutual
def R1times.l0 : Nat → List Int → List Int → List Int → Int → Option (List Int)
 | 0, _, _, _, _ => none
 | k + 1, x0, x1, x5, x6 => if x6 < (x0.length : Int) then (R1times.l1 k x0 x1 x5 x6 0 0) else ((R1strip.f k x5).bind fun t431 => (some t431))
def R1times.l1 : Nat → List Int → List Int → List Int → Int → Int → Int → Option (List Int)
 | 0, _, _, _, _, _, _ => none
 | k + 1, x0, x1, x5, x6, x7, x8 => if x8 < (x1.length : Int) then (if 0 ≤ x6 then (if x6 < (x0.length : Int) then (if 0 ≤ x8 then (if 0 ≤ (wrap64 (x6 + x8)) then (if (wrap64 (x6 + x8)) < (x5.length : Int) then (R1times.l1 k x0 x1 (x5.set ((wrap64 (x6 + x8)) : Int).toNat ((IntKind.u64.wrap ((IntKind.u64.wrap (x7 + (IntKind.u64.wrap ((IntKind.u64.wrap (rd x0 x6)) * (IntKind.u64.wrap (rd x1 x8)))))) + (IntKind.u64.wrap (rd x5 (wrap64 (x6 + x8)))))) % 4294967296)) x6 ((IntKind.u64.wrap ((IntKind.u64.wrap (x7 + (IntKind.u64.wrap ((IntKind.u64.wrap (rd x0 x6)) * (IntKind.u64.wrap (rd x1 x8)))))) + (IntKind.u64.wrap (rd x5 (wrap64 (x6 + x8)))))) / 4294967296) (wrap64 (x8 + 1))) else (none)) else (none)) else (none)) else (none)) else (none)) else (if 0 ≤ (wrap64 (x6 + (x1.length : Int))) then (if (wrap64 (x6 + (x1.length : Int))) < (x5.length : Int) then (R1times.l0 k x0 x1 (x5.set ((wrap64 (x6 + (x1.length : Int))) : Int).toNat ((x7) % 4294967296)) (wrap64 (x6 + 1))) else (none)) else (none))
end
def R1times.f (k : Nat) (l0 l1 : List Int) : Option (List Int) := if 0 ≤ (wrap64 ((l0.length : Int) + (l1.length : Int))) then (if (wrap64 ((l0.length : Int) + (l1.length : Int)) : Int).toNat ≤ 70368744177664 then (R1times.l0 k l0 l1 (List.replicate (wrap64 ((l0.length : Int) + (l1.length : Int)) : Int).toNat 0) 0) else (none)) else (none)
theorem R1times.calls (k : Nat) (A0 : Option Addr) (c0 : Nat) (l0 : List Int) (A1 : Option Addr) (c1 : Nat) (l1 r : List Int) (w : World) (hr0 : Kd.C (Kd.int .u32) w A0 l0.length l0) (hc0 : l0.length ≤ c0) (hr1 : Kd.C (Kd.int .u32) w A1 l1.length l1) (hc1 : l1.length ≤ c1) (H : R1times.f k l0 l1 = some r) :
 Calls Tryz.prog 45 #[.slice A0 l0.length c0, .slice A1 l1.length c1] w fun e w' => ∃ v0_ : Value, e = .returned (v0_) ∧ Kd.V (Kd.int .u32) 80 w' w.heap.size (fun k_ => (w.heap.size ≤ k_)) v0_ r ∧ Below w.heap.size w w' := by
 have HR0 := Aside0.mk hr0
 have HC0 := Aside0.mk hc0
 clear hr0 hc0
 have HR1 := Aside0.mk hr1
 have HC1 := Aside0.mk hc1
 clear hr1 hc1
 have HB := Aside0.mk (Below.refl w.heap.size w)
 unfold R1times.f at H
 obtain ⟨j1, jh1, jh1w⟩ := jI ((l0.length : Int) + (l1.length : Int))
 first | rw [jh1] at H | simp only [jh1] at H
 replace ⟨c2b0, c2b1, H⟩ := iteE H
 replace ⟨c3b0, c3b1, H⟩ := iteE H
 generalize yh1 : (List.replicate (j1 : Int).toNat 0 : List Int) = y1 at H
 have Y1 := Aside0.mk yh1.symm; clear yh1
 have H' := Aside0.mk H
 clear H
 go_enter Tryz.func45, Tryz.ntmps45
 go_wp2_with ((with_reducible refine gate_dst (N := 14) rfl ?_); refine Kd.R_make (Kd.int .u32) _ 80 rfl (N := 14) rfl 62 _ _ rfl j1 rfl rfl Tryz.underlying62 (.int .u32 0) 4 info80 rfl (by decide) (by omega) 0 (ok := fun _ => True) (okp := fun _ => True) rfl (fun _ hk => hk) trivial (of_decide_eq_true zq0) (Nat.le_trans (Nat.mul_le_mul_right _ (of_decide_eq_true zq0 : j1.toNat ≤ 70368744177664)) (by omega)) (Below.refl _ _) (Nat.le_refl _) ?_; intro v1 w2 ho7 hb hg_ hnew_; clear hg_ hnew_; (first | rw [← Y1.out] at ho7 | (simp only [Int.reduceToNat] at ho7; rw [← Y1.out] at ho7)); have O1 := Aside0.mk (Kd.R_lower (Kd.R_newM (M := fun k_ => (w.heap.size ≤ k_)) ho7 (below_size zH) (fun k_ h_ => h_)) (below_size zH)); replace HB := sB hb; clear hb ho7)
 repeat (go_quiet (((with_reducible refine gate_dst (N := 14) rfl ?_); refine Kd.R_make (Kd.int .u32) _ 80 rfl (N := 14) rfl 62 _ _ rfl j1 rfl rfl Tryz.underlying62 (.int .u32 0) 4 info80 rfl (by decide) (by omega) 0 (ok := fun _ => True) (okp := fun _ => True) rfl (fun _ hk => hk) trivial (of_decide_eq_true zq0) (Nat.le_trans (Nat.mul_le_mul_right _ (of_decide_eq_true zq0 : j1.toNat ≤ 70368744177664)) (by omega)) (Below.refl _ _) (Nat.le_refl _) ?_; intro v1 w2 ho7 hb hg_ hnew_; clear hg_ hnew_; (first | rw [← Y1.out] at ho7 | (simp only [Int.reduceToNat] at ho7; rw [← Y1.out] at ho7)); have O1 := Aside0.mk (Kd.R_lower (Kd.R_newM (M := fun k_ => (w.heap.size ≤ k_)) ho7 (below_size zH) (fun k_ h_ => h_)) (below_size zH)); replace HB := sB hb; clear hb ho7)); try go_wp2_with ((with_reducible refine gate_dst (N := 14) rfl ?_); refine Kd.R_make (Kd.int .u32) _ 80 rfl (N := 14) rfl 62 _ _ rfl j1 rfl rfl Tryz.underlying62 (.int .u32 0) 4 info80 rfl (by decide) (by omega) 0 (ok := fun _ => True) (okp := fun _ => True) rfl (fun _ hk => hk) trivial (of_decide_eq_true zq0) (Nat.le_trans (Nat.mul_le_mul_right _ (of_decide_eq_true zq0 : j1.toNat ≤ 70368744177664)) (by omega)) (Below.refl _ _) (Nat.le_refl _) ?_; intro v1 w2 ho7 hb hg_ hnew_; clear hg_ hnew_; (first | rw [← Y1.out] at ho7 | (simp only [Int.reduceToNat] at ho7; rw [← Y1.out] at ho7)); have O1 := Aside0.mk (Kd.R_lower (Kd.R_newM (M := fun k_ => (w.heap.size ≤ k_)) ho7 (below_size zH) (fun k_ h_ => h_)) (below_size zH)); replace HB := sB hb; clear hb ho7))
 go_loopg [6] k (fun kq v2 w' => ∃ (x1 : List Int) (x2 : Int), v2 = .int .i64 x2 ∧ Aside0 (R1times.l0 kq l0 l1 x1 x2 = some r) ∧ Aside0 (kq ≤ k) ∧ Aside0 (Kd.R (Kd.int .u32) 80 w' w.heap.size (fun k_ => (w.heap.size ≤ k_)) v1 x1) ∧ Aside0 (Below w.heap.size w w'))
 case atStart => exact ⟨(y1), (0), zq1, H', ⟨Nat.le_refl _⟩, ⟨zq20⟩, ⟨zH⟩⟩
 case round =>
  clear H'
  obtain ⟨x1, x2, rfl, HA, HK1, HO_5, HB⟩ := hrel
  cases gk with
  | zero => exact absurd HA.out (by simp [R1times.l0])
  | succ k1 =>
   have H := HA.out
   clear HA
   simp only [R1times.l0] at H
   replace H := iL H
   rcases H with ⟨c4b0, H⟩ | ⟨c4b0, H⟩
   ·have H' := Aside0.mk H
    clear H
    go_wp2
    repeat (go_quiet (fail); try go_wp2)
    go_loopg [7, 8] k1 (fun kq v3 v4 w' => ∃ (x3 : List Int) (x4 : Int) (x5 : Int), v3 = .int .u64 x4 ∧ v4 = .int .i64 x5 ∧ Aside0 (R1times.l1 kq l0 l1 x3 x2 x4 x5 = some r) ∧ Aside0 (kq ≤ k1) ∧ Aside0 (Kd.R (Kd.int .u32) 80 w' w.heap.size (fun k_ => (w.heap.size ≤ k_)) v1 x3) ∧ Aside0 (Below w.heap.size w w'))
    case atStart => exact ⟨(x1), (0), (0), zq1, zq1, H', ⟨Nat.le_refl _⟩, ⟨zR⟩, ⟨zH⟩⟩
    case round =>
     clear H'
     obtain ⟨x3, x4, x5, rfl, rfl, HA, HK2, HO_5, HB⟩ := hrel
     cases gk with
     | zero => exact absurd HA.out (by simp [R1times.l1])
     | succ k2 =>
      have H := HA.out
      clear HA
      simp only [R1times.l1] at H
      replace H := iL H
      rcases H with ⟨c5b0, H⟩ | ⟨c5b0, H⟩
      ·replace ⟨c6b0, H⟩ := iteD H
       replace ⟨c7b0, H⟩ := iteD H
       replace ⟨c8b0, H⟩ := iteD H
       obtain ⟨j2, jh2, jh2w⟩ := jI (x2 + x5)
       first | rw [jh2] at H | simp only [jh2] at H
       replace ⟨c9b0, H⟩ := iteD H
       replace ⟨c10b0, H⟩ := iteD H
       generalize yh2 : (x3.set ((j2) : Int).toNat ((IntKind.u64.wrap ((IntKind.u64.wrap (x4 + (IntKind.u64.wrap ((IntKind.u64.wrap (rd l0 x2)) * (IntKind.u64.wrap (rd l1 x5)))))) + (IntKind.u64.wrap (rd x3 (j2))))) % 4294967296) : List Int) = y2 at H
       have Y2 := Aside0.mk yh2.symm; clear yh2
       have H' := Aside0.mk H
       clear H
       obtain ⟨ad1, e1, hx1, p1, q1⟩ := atI HR0.out x2
       cases e1
       (try replace hx1 := hM HB hx1)
       obtain ⟨ad2, e2, hx2, p2, q2⟩ := atI HR1.out x5
       cases e2
       (try replace hx2 := hM HB hx2)
       obtain ⟨P1, d1, u1⟩ := Kd.R_slice HO_5.out
       subst u1
       obtain ⟨ad3, e3, hx3, p3, q3⟩ := atI (Kd.R_reads' HO_5.out).2.2 (j2)
       cases e3
       have p4 : 0 ≤ ((j2) : Int) := of_decide_eq_true zq0
       have q4 : ((j2) : Int) < ((x3.length : Int) : Int) := of_decide_eq_true zq0
       obtain ⟨go1, d2, u2, g1, gl16, cl16, HG16⟩ := Kd.R_form HO_5.out (by omega)
       (first | cases u2 | (injection u2 with ea_ en_ ec_; (first | subst ea_ | (injection ea_ with ea_; subst ea_)); subst ec_; clear en_))
       have GB1 := Aside0.mk g1
       have GG16 := Aside0.mk HG16
       clear g1 gl16 HG16
       (first | simp only [add_plain] at hx3 | skip)
       obtain ⟨hx4, hf16_0⟩ := Kd.R_celln 0 HO_5.out ((j2) : Int) p4 q4
       (try simp only [Go.IntWalk.toNatUp] at hx4 hf16_0)
       replace p4 := eq_true p4
       replace q4 := eq_true q4
       have HP1 := Kd.R_putg HO_5.out ((j2) : Int) ((IntKind.u64.wrap ((IntKind.u64.wrap (x4 + (IntKind.u64.wrap ((IntKind.u64.wrap (rd l0 x2)) * (IntKind.u64.wrap (rd l1 x5)))))) + (IntKind.u64.wrap (rd x3 (j2))))) % 4294967296)
       go_wp2_with (refine gS 80 54 ?_; (try (rw [drewN_self wr]; generalize hq_ : World.drewN wr _ = wr; have n0_ := Aside0.mk (Kd.R_at hq_ HO_5.out); have n1_ := Aside0.mk (below_at hq_ HB.out); clear hq_ HO_5 HB; have HO_5 := n0_; have HB := n1_; clear n0_ n1_; (try (obtain ⟨hx4, hf16_0⟩ := Kd.R_celln 0 HO_5.out ((j2) : Int) (of_eq_true p4) (of_eq_true q4))); (try (have HP1 := Kd.R_putg HO_5.out ((j2) : Int) ((IntKind.u64.wrap ((IntKind.u64.wrap (x4 + (IntKind.u64.wrap ((IntKind.u64.wrap (rd l0 x2)) * (IntKind.u64.wrap (rd l1 x5)))))) + (IntKind.u64.wrap (rd x3 (j2))))) % 4294967296))))); refine stR 80 54 HP1 Y2 fun w3 hw hg hp_ => ?_; clear HP1; replace HO_5 := Aside0.mk (hp_); replace HB := bS2 hw HB GB1; clear hg hw hp_)
       repeat (go_quiet ((refine gS 80 54 ?_; (try (rw [drewN_self wr]; generalize hq_ : World.drewN wr _ = wr; have n0_ := Aside0.mk (Kd.R_at hq_ HO_5.out); have n1_ := Aside0.mk (below_at hq_ HB.out); clear hq_ HO_5 HB; have HO_5 := n0_; have HB := n1_; clear n0_ n1_; (try (obtain ⟨hx4, hf16_0⟩ := Kd.R_celln 0 HO_5.out ((j2) : Int) (of_eq_true p4) (of_eq_true q4))); (try (have HP1 := Kd.R_putg HO_5.out ((j2) : Int) ((IntKind.u64.wrap ((IntKind.u64.wrap (x4 + (IntKind.u64.wrap ((IntKind.u64.wrap (rd l0 x2)) * (IntKind.u64.wrap (rd l1 x5)))))) + (IntKind.u64.wrap (rd x3 (j2))))) % 4294967296))))); refine stR 80 54 HP1 Y2 fun w3 hw hg hp_ => ?_; clear HP1; replace HO_5 := Aside0.mk (hp_); replace HB := bS2 hw HB GB1; clear hg hw hp_)); try go_wp2_with (refine gS 80 54 ?_; (try (rw [drewN_self wr]; generalize hq_ : World.drewN wr _ = wr; have n0_ := Aside0.mk (Kd.R_at hq_ HO_5.out); have n1_ := Aside0.mk (below_at hq_ HB.out); clear hq_ HO_5 HB; have HO_5 := n0_; have HB := n1_; clear n0_ n1_; (try (obtain ⟨hx4, hf16_0⟩ := Kd.R_celln 0 HO_5.out ((j2) : Int) (of_eq_true p4) (of_eq_true q4))); (try (have HP1 := Kd.R_putg HO_5.out ((j2) : Int) ((IntKind.u64.wrap ((IntKind.u64.wrap (x4 + (IntKind.u64.wrap ((IntKind.u64.wrap (rd l0 x2)) * (IntKind.u64.wrap (rd l1 x5)))))) + (IntKind.u64.wrap (rd x3 (j2))))) % 4294967296))))); refine stR 80 54 HP1 Y2 fun w3 hw hg hp_ => ?_; clear HP1; replace HO_5 := Aside0.mk (hp_); replace HB := bS2 hw HB GB1; clear hg hw hp_))
       go_roundg k2
       case measure => have := HK1.out; have := HK2.out; omega
       case rel => exact ⟨(y2), ((IntKind.u64.wrap ((IntKind.u64.wrap (x4 + (IntKind.u64.wrap ((IntKind.u64.wrap (rd l0 x2)) * (IntKind.u64.wrap (rd l1 x5)))))) + (IntKind.u64.wrap (rd x3 (j2))))) / 4294967296), (wrap64 (x5 + 1)), zq27, zq1, H', ⟨zq17⟩, ⟨zR⟩, ⟨zH⟩⟩
      ·obtain ⟨j2, jh2, jh2w⟩ := jI (x2 + (l1.length : Int))
       first | rw [jh2] at H | simp only [jh2] at H
       replace ⟨c6b0, H⟩ := iteD H
       replace ⟨c7b0, H⟩ := iteD H
       generalize yh2 : (x3.set ((j2) : Int).toNat ((x4) % 4294967296) : List Int) = y2 at H
       have Y2 := Aside0.mk yh2.symm; clear yh2
       have H' := Aside0.mk H
       clear H
       have p1 : 0 ≤ ((j2) : Int) := of_decide_eq_true zq0
       have q1 : ((j2) : Int) < ((x3.length : Int) : Int) := of_decide_eq_true zq0
       obtain ⟨go1, d1, u1, g1, gl23, cl23, HG23⟩ := Kd.R_form HO_5.out (by omega)
       (first | cases u1 | (injection u1 with ea_ en_ ec_; (first | subst ea_ | (injection ea_ with ea_; subst ea_)); subst ec_; clear en_))
       have GB1 := Aside0.mk g1
       have GG23 := Aside0.mk HG23
       clear g1 gl23 HG23
       obtain ⟨hx1, hf23_0⟩ := Kd.R_celln 0 HO_5.out ((j2) : Int) p1 q1
       (try simp only [Go.IntWalk.toNatUp] at hx1 hf23_0)
       replace p1 := eq_true p1
       replace q1 := eq_true q1
       have HP1 := Kd.R_putg HO_5.out ((j2) : Int) ((x4) % 4294967296)
       go_wp2_with (refine gS 80 64 ?_; (try (rw [drewN_self wr]; generalize hq_ : World.drewN wr _ = wr; have n0_ := Aside0.mk (Kd.R_at hq_ HO_5.out); have n1_ := Aside0.mk (below_at hq_ HB.out); clear hq_ HO_5 HB; have HO_5 := n0_; have HB := n1_; clear n0_ n1_; (try (obtain ⟨hx1, hf23_0⟩ := Kd.R_celln 0 HO_5.out ((j2) : Int) (of_eq_true p1) (of_eq_true q1))); (try (have HP1 := Kd.R_putg HO_5.out ((j2) : Int) ((x4) % 4294967296))))); refine stR 80 64 HP1 Y2 fun w3 hw hg hp_ => ?_; clear HP1; replace HO_5 := Aside0.mk (hp_); replace HB := bS2 hw HB GB1; clear hg hw hp_)
       repeat (go_quiet ((refine gS 80 64 ?_; (try (rw [drewN_self wr]; generalize hq_ : World.drewN wr _ = wr; have n0_ := Aside0.mk (Kd.R_at hq_ HO_5.out); have n1_ := Aside0.mk (below_at hq_ HB.out); clear hq_ HO_5 HB; have HO_5 := n0_; have HB := n1_; clear n0_ n1_; (try (obtain ⟨hx1, hf23_0⟩ := Kd.R_celln 0 HO_5.out ((j2) : Int) (of_eq_true p1) (of_eq_true q1))); (try (have HP1 := Kd.R_putg HO_5.out ((j2) : Int) ((x4) % 4294967296))))); refine stR 80 64 HP1 Y2 fun w3 hw hg hp_ => ?_; clear HP1; replace HO_5 := Aside0.mk (hp_); replace HB := bS2 hw HB GB1; clear hg hw hp_)); try go_wp2_with (refine gS 80 64 ?_; (try (rw [drewN_self wr]; generalize hq_ : World.drewN wr _ = wr; have n0_ := Aside0.mk (Kd.R_at hq_ HO_5.out); have n1_ := Aside0.mk (below_at hq_ HB.out); clear hq_ HO_5 HB; have HO_5 := n0_; have HB := n1_; clear n0_ n1_; (try (obtain ⟨hx1, hf23_0⟩ := Kd.R_celln 0 HO_5.out ((j2) : Int) (of_eq_true p1) (of_eq_true q1))); (try (have HP1 := Kd.R_putg HO_5.out ((j2) : Int) ((x4) % 4294967296))))); refine stR 80 64 HP1 Y2 fun w3 hw hg hp_ => ?_; clear HP1; replace HO_5 := Aside0.mk (hp_); replace HB := bS2 hw HB GB1; clear hg hw hp_))
       go_roundg k2
       case measure => have := HK1.out; have := HK2.out; omega
       case rel => exact ⟨(y2), (wrap64 (x2 + 1)), zq1, H', ⟨zq17⟩, ⟨zR⟩, ⟨zH⟩⟩
   ·replace ⟨t1, A2, H⟩ := bS H
    obtain rfl := sI H
    obtain ⟨P1, d1, u1⟩ := Kd.R_slice HO_5.out
    subst u1
    go_wp2_with (go_at_call 70; (with_reducible refine (R1strip.calls k1 (fun k_ => some k_ = (.slice P1 x1.length d1 : Value).ownBlock) _ _ x1 t1 _ ?side1 A2.out).mono ?_); (case side1 => exact Kd.R_V (Kd.R_tight rfl (HO_5.out))); rintro e w3 ⟨v3, rfl, ho0, hb⟩; have O2 := Aside0.mk (Kd.V_lower (Kd.V_mono (ok' := fun k_ => (w.heap.size ≤ k_)) ho0 (fun k_ hk_ => Or.elim hk_ (fun hs_ => ((HO_5.out).1 k_ hs_.symm)) (fun hn_ => (Nat.le_trans (below_size zH) hn_)))) (below_size zH)); replace HO_5 := rB HO_5 hb; replace HB := sB hb; (try clear hb); (try clear ho0))
    repeat (go_quiet ((go_at_call 70; (with_reducible refine (R1strip.calls k1 (fun k_ => some k_ = (.slice P1 x1.length d1 : Value).ownBlock) _ _ x1 t1 _ ?side1 A2.out).mono ?_); (case side1 => exact Kd.R_V (Kd.R_tight rfl (HO_5.out))); rintro e w3 ⟨v3, rfl, ho0, hb⟩; have O2 := Aside0.mk (Kd.V_lower (Kd.V_mono (ok' := fun k_ => (w.heap.size ≤ k_)) ho0 (fun k_ hk_ => Or.elim hk_ (fun hs_ => ((HO_5.out).1 k_ hs_.symm)) (fun hn_ => (Nat.le_trans (below_size zH) hn_)))) (below_size zH)); replace HO_5 := rB HO_5 hb; replace HB := sB hb; (try clear hb); (try clear ho0))); try go_wp2_with (go_at_call 70; (with_reducible refine (R1strip.calls k1 (fun k_ => some k_ = (.slice P1 x1.length d1 : Value).ownBlock) _ _ x1 t1 _ ?side1 A2.out).mono ?_); (case side1 => exact Kd.R_V (Kd.R_tight rfl (HO_5.out))); rintro e w3 ⟨v3, rfl, ho0, hb⟩; have O2 := Aside0.mk (Kd.V_lower (Kd.V_mono (ok' := fun k_ => (w.heap.size ≤ k_)) ho0 (fun k_ hk_ => Or.elim hk_ (fun hs_ => ((HO_5.out).1 k_ hs_.symm)) (fun hn_ => (Nat.le_trans (below_size zH) hn_)))) (below_size zH)); replace HO_5 := rB HO_5 hb; replace HB := sB hb; (try clear hb); (try clear ho0)))
    go_ret
    exact ⟨_, zq9, zV, zH⟩
mutual
def R1plus.l0 : Nat → List Int → List Int → List Int → Int → Int → Option (List Int)
 | 0, _, _, _, _, _ => none
 | k + 1, x0, x1, x5, x6, x7 => if x7 < (x0.length : Int) then (R1plus.j1 k x0 x1 x5 x6 x7 true) else (if x7 < (x1.length : Int) then (R1plus.j1 k x0 x1 x5 x6 x7 true) else (R1plus.j1 k x0 x1 x5 x6 x7 (decide (x6 > 0))))
def R1plus.j1 : Nat → List Int → List Int → List Int → Int → Int → Bool → Option (List Int)
 | 0, _, _, _, _, _, _ => none
 | k + 1, x0, x1, x5, x6, x7, x21 => if x21 = true then (if x7 < (x0.length : Int) then (if 0 ≤ x7 then (if x7 < (x1.length : Int) then (if x5.length < 35184372088832 then (R1plus.l0 k x0 x1 (x5 ++ [(IntKind.u64.wrap ((IntKind.u64.wrap (x6 + (IntKind.u64.wrap (rd x0 x7)))) + (IntKind.u64.wrap (rd x1 x7)))) % 4294967296]) ((IntKind.u64.wrap ((IntKind.u64.wrap (x6 + (IntKind.u64.wrap (rd x0 x7)))) + (IntKind.u64.wrap (rd x1 x7)))) / 4294967296) (wrap64 (x7 + 1))) else (none)) else (if x5.length < 35184372088832 then (R1plus.l0 k x0 x1 (x5 ++ [(IntKind.u64.wrap (x6 + (IntKind.u64.wrap (rd x0 x7)))) % 4294967296]) ((IntKind.u64.wrap (x6 + (IntKind.u64.wrap (rd x0 x7)))) / 4294967296) (wrap64 (x7 + 1))) else (none))) else (none)) else (if x7 < (x1.length : Int) then (if 0 ≤ x7 then (if x5.length < 35184372088832 then (R1plus.l0 k x0 x1 (x5 ++ [(IntKind.u64.wrap (x6 + (IntKind.u64.wrap (rd x1 x7)))) % 4294967296]) ((IntKind.u64.wrap (x6 + (IntKind.u64.wrap (rd x1 x7)))) / 4294967296) (wrap64 (x7 + 1))) else (none)) else (none)) else (if x5.length < 35184372088832 then (R1plus.l0 k x0 x1 (x5 ++ [(x6) % 4294967296]) (x6 / 4294967296) (wrap64 (x7 + 1))) else (none)))) else (some x5)
end
def R1plus.f (k : Nat) (l0 l1 : List Int) : Option (List Int) := R1plus.l0 k l0 l1 ([] : List Int) 0 0
theorem R1plus.calls (k : Nat) (A0 : Option Addr) (c0 : Nat) (l0 : List Int) (A1 : Option Addr) (c1 : Nat) (l1 r : List Int) (w : World) (hr0 : Kd.C (Kd.int .u32) w A0 l0.length l0) (hc0 : l0.length ≤ c0) (hr1 : Kd.C (Kd.int .u32) w A1 l1.length l1) (hc1 : l1.length ≤ c1) (H : R1plus.f k l0 l1 = some r) :
 Calls Tryz.prog 48 #[.slice A0 l0.length c0, .slice A1 l1.length c1] w fun e w' => ∃ v0_ : Value, e = .returned (v0_) ∧ Kd.R (Kd.int .u32) 80 w' w.heap.size (fun _ => True) v0_ r ∧ Below w.heap.size w w' := by
 have HR0 := Aside0.mk hr0
 have HC0 := Aside0.mk hc0
 clear hr0 hc0
 have HR1 := Aside0.mk hr1
 have HC1 := Aside0.mk hc1
 clear hr1 hc1
 have HB := Aside0.mk (Below.refl w.heap.size w)
 unfold R1plus.f at H
 have H' := Aside0.mk H
 clear H
 go_enter Tryz.func48, Tryz.ntmps48
 go_wp2
 go_loopg [5, 6, 7] k (fun kq v1 v2 v3 w' => ∃ (x1 : List Int) (x2 : Int) (x3 : Int), v2 = .int .u64 x2 ∧ v3 = .int .i64 x3 ∧ Aside0 (R1plus.l0 kq l0 l1 x1 x2 x3 = some r) ∧ Aside0 (kq ≤ k) ∧ Aside0 (Kd.R (Kd.int .u32) 80 w' w.heap.size (fun _ => True) v1 x1) ∧ Aside0 (Below w.heap.size w w'))
 case atStart => exact ⟨(([] : List Int)), (0), (0), zq1, zq1, H', ⟨Nat.le_refl _⟩, ⟨zq34⟩, ⟨zH⟩⟩
 case round =>
  clear H'
  obtain ⟨x1, x2, x3, rfl, rfl, HA, HK1, HO_5, HB⟩ := hrel
  cases gk with
  | zero => exact absurd HA.out (by simp [R1plus.l0])
  | succ k1 =>
   have H := HA.out
   clear HA
   simp only [R1plus.l0] at H
   have HC3 := Aside0.mk H
   clear H
   go_upto_region 4 with (fail)
   go_cut [21] (fun v4 wc => ∃ (kq : Nat) (x4 : Bool), v4 = .bool x4 ∧ Aside0 (R1plus.j1 kq l0 l1 x1 x2 x3 x4 = some r) ∧ Aside0 (kq ≤ k1) ∧ Aside0 (Kd.R (Kd.int .u32) 80 wc w.heap.size (fun _ => True) u5 x1) ∧ Aside0 (Below w.heap.size w wc))
   case first =>
    have H := HC3.out
    clear HC3
    replace H := iL H
    rcases H with ⟨c2b0, H⟩ | ⟨c2b0, H⟩
    ·(first | rw [c2b0] | (simp only [i64_w, i32_w]; rw [c2b0]) | rw [c2b1] | skip)
     have H' := Aside0.mk H
     clear H
     go_wp2
     go_meet
     case rel => exact ⟨_, (true), zq1, H', ⟨zq12⟩, ⟨zR⟩, ⟨zH⟩⟩
    ·(first | rw [c2b0] | (simp only [i64_w, i32_w]; rw [c2b0]) | rw [c2b1] | skip)
     replace H := iL H
     rcases H with ⟨c3b0, H⟩ | ⟨c3b0, H⟩
     ·have H' := Aside0.mk H
      clear H
      go_wp2
      go_meet
      case rel => exact ⟨_, (true), zq1, H', ⟨zq12⟩, ⟨zR⟩, ⟨zH⟩⟩
     ·have H' := Aside0.mk H
      clear H
      go_wp2
      go_meet
      case rel => exact ⟨_, (decide (x2 > 0)), zq1, H', ⟨zq12⟩, ⟨zR⟩, ⟨zH⟩⟩
   case rest =>
    clear HC3
    obtain ⟨kq, x4, rfl, HA, HJ2, HO_5, HB⟩ := hcut
    cases kq with
    | zero => exact absurd HA.out (by simp [R1plus.j1])
    | succ kj2 =>
     have H := HA.out
     clear HA
     simp only [R1plus.j1] at H
     by_cases c3 : x4 = true
     ·subst c3
      rw [if_pos rfl] at H
      replace H := iL H
      rcases H with ⟨c4b0, H⟩ | ⟨c4b0, H⟩
      ·replace ⟨c5b0, H⟩ := iteD H
       replace H := iL H
       rcases H with ⟨c6b0, H⟩ | ⟨c6b0, H⟩
       ·replace H := of_ite H
        obtain ⟨c7, H⟩ := H
        have LMc10 := Aside0.mk c7
        clear c7
        generalize yh1 : (x1 ++ [(IntKind.u64.wrap ((IntKind.u64.wrap (x2 + (IntKind.u64.wrap (rd l0 x3)))) + (IntKind.u64.wrap (rd l1 x3)))) % 4294967296] : List Int) = y1 at H
        have Y1 := Aside0.mk yh1.symm; clear yh1
        have H' := Aside0.mk H
        clear H
        obtain ⟨ad1, e1, hx1, p1, q1⟩ := atI HR0.out x3
        cases e1
        (try replace hx1 := hM HB hx1)
        obtain ⟨ad2, e2, hx2, p2, q2⟩ := atI HR1.out x3
        cases e2
        (try replace hx2 := hM HB hx2)
        go_wp2_with ((with_reducible refine gate_builtin (b := .append) (xs := #[.tmp 46, .tmp 49]) rfl ?_); (try (refine gate_guard (by rfl) ?_; dsimp only)); at_builtin; refine Kd.R_append (Kd.int .u32) (w0 := w) w.heap.size rfl (.tmp 46) (.tmp 49) 62 80 (.int .u32 0) 4 rfl Tryz.underlying62 info80 rfl (by decide) (by omega) u5 x1 ((IntKind.u64.wrap ((IntKind.u64.wrap (x2 + (IntKind.u64.wrap (rd l0 x3)))) + (IntKind.u64.wrap (rd l1 x3)))) % 4294967296) [.int .u32 ((IntKind.u64.wrap ((IntKind.u64.wrap (x2 + (IntKind.u64.wrap (rd l0 x3)))) + (IntKind.u64.wrap (rd l1 x3)))) % 4294967296)] (fun _ => True) (fun _ => False) rfl rfl ?aP (fun _ hk => hk.elim) ?aF ?aO ?aB ?aS ?aL ?_; (case aP => exact rfl); (case aB => exact zH); (case aF => exact (fun _ _ => trivial)); (case aO => exact zq23); (case aS => exact (below_size zH)); (case aL => have := LMc10.out; omega); intro v5 w1 ho hb hg hat; rw [← Y1.out] at ho; have O1 := Aside0.mk (ho); replace HB := Aside0.mk (hb); clear HO_5; clear ho hb hg hat)
        go_roundg kj2
        case measure => have := HK1.out; have := HJ2.out; omega
        case rel => exact ⟨(y1), ((IntKind.u64.wrap ((IntKind.u64.wrap (x2 + (IntKind.u64.wrap (rd l0 x3)))) + (IntKind.u64.wrap (rd l1 x3)))) / 4294967296), (wrap64 (x3 + 1)), zq1, zq1, H', ⟨by have := HK1.out; have := HJ2.out; omega⟩, ⟨zR⟩, ⟨zH⟩⟩
       ·replace H := of_ite H
        obtain ⟨c7, H⟩ := H
        have LMc12 := Aside0.mk c7
        clear c7
        generalize yh1 : (x1 ++ [(IntKind.u64.wrap (x2 + (IntKind.u64.wrap (rd l0 x3)))) % 4294967296] : List Int) = y1 at H
        have Y1 := Aside0.mk yh1.symm; clear yh1
        have H' := Aside0.mk H
        clear H
        obtain ⟨ad1, e1, hx1, p1, q1⟩ := atI HR0.out x3
        cases e1
        (try replace hx1 := hM HB hx1)
        go_wp2_with ((with_reducible refine gate_builtin (b := .append) (xs := #[.tmp 46, .tmp 49]) rfl ?_); (try (refine gate_guard (by rfl) ?_; dsimp only)); at_builtin; refine Kd.R_append (Kd.int .u32) (w0 := w) w.heap.size rfl (.tmp 46) (.tmp 49) 62 80 (.int .u32 0) 4 rfl Tryz.underlying62 info80 rfl (by decide) (by omega) u5 x1 ((IntKind.u64.wrap (x2 + (IntKind.u64.wrap (rd l0 x3)))) % 4294967296) [.int .u32 ((IntKind.u64.wrap (x2 + (IntKind.u64.wrap (rd l0 x3)))) % 4294967296)] (fun _ => True) (fun _ => False) rfl rfl ?aP (fun _ hk => hk.elim) ?aF ?aO ?aB ?aS ?aL ?_; (case aP => exact rfl); (case aB => exact zH); (case aF => exact (fun _ _ => trivial)); (case aO => exact zq23); (case aS => exact (below_size zH)); (case aL => have := LMc12.out; omega); intro v5 w1 ho hb hg hat; rw [← Y1.out] at ho; have O1 := Aside0.mk (ho); replace HB := Aside0.mk (hb); clear HO_5; clear ho hb hg hat)
        go_roundg kj2
        case measure => have := HK1.out; have := HJ2.out; omega
        case rel => exact ⟨(y1), ((IntKind.u64.wrap (x2 + (IntKind.u64.wrap (rd l0 x3)))) / 4294967296), (wrap64 (x3 + 1)), zq1, zq1, H', ⟨by have := HK1.out; have := HJ2.out; omega⟩, ⟨zR⟩, ⟨zH⟩⟩
      ·replace H := iL H
       rcases H with ⟨c5b0, H⟩ | ⟨c5b0, H⟩
       ·replace ⟨c6b0, H⟩ := iteD H
        replace H := of_ite H
        obtain ⟨c7, H⟩ := H
        have LMc16 := Aside0.mk c7
        clear c7
        generalize yh1 : (x1 ++ [(IntKind.u64.wrap (x2 + (IntKind.u64.wrap (rd l1 x3)))) % 4294967296] : List Int) = y1 at H
        have Y1 := Aside0.mk yh1.symm; clear yh1
        have H' := Aside0.mk H
        clear H
        obtain ⟨ad1, e1, hx1, p1, q1⟩ := atI HR1.out x3
        cases e1
        (try replace hx1 := hM HB hx1)
        go_wp2_with ((with_reducible refine gate_builtin (b := .append) (xs := #[.tmp 46, .tmp 49]) rfl ?_); (try (refine gate_guard (by rfl) ?_; dsimp only)); at_builtin; refine Kd.R_append (Kd.int .u32) (w0 := w) w.heap.size rfl (.tmp 46) (.tmp 49) 62 80 (.int .u32 0) 4 rfl Tryz.underlying62 info80 rfl (by decide) (by omega) u5 x1 ((IntKind.u64.wrap (x2 + (IntKind.u64.wrap (rd l1 x3)))) % 4294967296) [.int .u32 ((IntKind.u64.wrap (x2 + (IntKind.u64.wrap (rd l1 x3)))) % 4294967296)] (fun _ => True) (fun _ => False) rfl rfl ?aP (fun _ hk => hk.elim) ?aF ?aO ?aB ?aS ?aL ?_; (case aP => exact rfl); (case aB => exact zH); (case aF => exact (fun _ _ => trivial)); (case aO => exact zq23); (case aS => exact (below_size zH)); (case aL => have := LMc16.out; omega); intro v5 w1 ho hb hg hat; rw [← Y1.out] at ho; have O1 := Aside0.mk (ho); replace HB := Aside0.mk (hb); clear HO_5; clear ho hb hg hat)
        go_roundg kj2
        case measure => have := HK1.out; have := HJ2.out; omega
        case rel => exact ⟨(y1), ((IntKind.u64.wrap (x2 + (IntKind.u64.wrap (rd l1 x3)))) / 4294967296), (wrap64 (x3 + 1)), zq1, zq1, H', ⟨by have := HK1.out; have := HJ2.out; omega⟩, ⟨zR⟩, ⟨zH⟩⟩
       ·replace H := of_ite H
        obtain ⟨c6, H⟩ := H
        have LMc18 := Aside0.mk c6
        clear c6
        generalize yh1 : (x1 ++ [(x2) % 4294967296] : List Int) = y1 at H
        have Y1 := Aside0.mk yh1.symm; clear yh1
        have H' := Aside0.mk H
        clear H
        go_wp2_with ((with_reducible refine gate_builtin (b := .append) (xs := #[.tmp 46, .tmp 49]) rfl ?_); (try (refine gate_guard (by rfl) ?_; dsimp only)); at_builtin; refine Kd.R_append (Kd.int .u32) (w0 := w) w.heap.size rfl (.tmp 46) (.tmp 49) 62 80 (.int .u32 0) 4 rfl Tryz.underlying62 info80 rfl (by decide) (by omega) u5 x1 ((x2) % 4294967296) [.int .u32 ((x2) % 4294967296)] (fun _ => True) (fun _ => False) rfl rfl ?aP (fun _ hk => hk.elim) ?aF ?aO ?aB ?aS ?aL ?_; (case aP => exact rfl); (case aB => exact zH); (case aF => exact (fun _ _ => trivial)); (case aO => exact zq23); (case aS => exact (below_size zH)); (case aL => have := LMc18.out; omega); intro v5 w1 ho hb hg hat; rw [← Y1.out] at ho; have O1 := Aside0.mk (ho); replace HB := Aside0.mk (hb); clear HO_5; clear ho hb hg hat)
        go_roundg kj2
        case measure => have := HK1.out; have := HJ2.out; omega
        case rel => exact ⟨(y1), (x2 / 4294967296), (wrap64 (x3 + 1)), zq1, zq1, H', ⟨by have := HK1.out; have := HJ2.out; omega⟩, ⟨zR⟩, ⟨zH⟩⟩
     ·replace c3 := Bool.eq_false_iff.mpr c3
      subst c3
      rw [if_neg (show ¬ (false = true) by decide)] at H
      obtain rfl := sI H
      go_wp2
      go_ret
      exact ⟨_, zE, zR, zH⟩
def R1minus.l0 : Nat → List Int → List Int → List Int → Int → Int → Option (List Int)
 | 0, _, _, _, _, _ => none
 | k + 1, x0, x1, x5, x6, x7 => if x7 < (x0.length : Int) then (if x7 < (x1.length : Int) then (if 0 ≤ x7 then (if (IntKind.u64.wrap (rd x0 x7)) < (IntKind.u64.wrap (x6 + (IntKind.u64.wrap (rd x1 x7)))) then (if x7 < (x5.length : Int) then (R1minus.l0 k x0 x1 (x5.set (x7 : Int).toNat ((IntKind.u64.wrap ((IntKind.u64.wrap ((IntKind.u64.wrap (rd x0 x7)) + 4294967296)) - (IntKind.u64.wrap (x6 + (IntKind.u64.wrap (rd x1 x7)))))) % 4294967296)) 1 (wrap64 (x7 + 1))) else (none)) else (if x7 < (x5.length : Int) then (R1minus.l0 k x0 x1 (x5.set (x7 : Int).toNat ((IntKind.u64.wrap ((IntKind.u64.wrap (rd x0 x7)) - (IntKind.u64.wrap (x6 + (IntKind.u64.wrap (rd x1 x7)))))) % 4294967296)) 0 (wrap64 (x7 + 1))) else (none))) else (none)) else (if 0 ≤ x7 then (if (IntKind.u64.wrap (rd x0 x7)) < x6 then (if x7 < (x5.length : Int) then (R1minus.l0 k x0 x1 (x5.set (x7 : Int).toNat ((IntKind.u64.wrap ((IntKind.u64.wrap ((IntKind.u64.wrap (rd x0 x7)) + 4294967296)) - x6)) % 4294967296)) 1 (wrap64 (x7 + 1))) else (none)) else (if x7 < (x5.length : Int) then (R1minus.l0 k x0 x1 (x5.set (x7 : Int).toNat ((IntKind.u64.wrap ((IntKind.u64.wrap (rd x0 x7)) - x6)) % 4294967296)) 0 (wrap64 (x7 + 1))) else (none))) else (none))) else ((R1strip.f k x5).bind fun t457 => (some t457))
def R1minus.f (k : Nat) (l0 l1 : List Int) : Option (List Int) := if 0 ≤ (l0.length : Int) then (if ((l0.length : Int) : Int).toNat ≤ 70368744177664 then (R1minus.l0 k l0 l1 (List.replicate ((l0.length : Int) : Int).toNat 0) 0 0) else (none)) else (none)
theorem R1minus.calls (k : Nat) (A0 : Option Addr) (c0 : Nat) (l0 : List Int) (A1 : Option Addr) (c1 : Nat) (l1 r : List Int) (w : World) (hr0 : Kd.C (Kd.int .u32) w A0 l0.length l0) (hc0 : l0.length ≤ c0) (hr1 : Kd.C (Kd.int .u32) w A1 l1.length l1) (hc1 : l1.length ≤ c1) (H : R1minus.f k l0 l1 = some r) :
 Calls Tryz.prog 50 #[.slice A0 l0.length c0, .slice A1 l1.length c1] w fun e w' => ∃ v0_ : Value, e = .returned (v0_) ∧ Kd.V (Kd.int .u32) 80 w' w.heap.size (fun k_ => (w.heap.size ≤ k_)) v0_ r ∧ Below w.heap.size w w' := by
 have HR0 := Aside0.mk hr0
 have HC0 := Aside0.mk hc0
 clear hr0 hc0
 have HR1 := Aside0.mk hr1
 have HC1 := Aside0.mk hc1
 clear hr1 hc1
 have HB := Aside0.mk (Below.refl w.heap.size w)
 unfold R1minus.f at H
 replace ⟨c2b0, c2b1, H⟩ := iteE H
 replace ⟨c3b0, c3b1, H⟩ := iteE H
 generalize yh1 : (List.replicate ((l0.length : Int) : Int).toNat 0 : List Int) = y1 at H
 have Y1 := Aside0.mk yh1.symm; clear yh1
 have H' := Aside0.mk H
 clear H
 go_enter Tryz.func50, Tryz.ntmps50
 go_wp2_with ((with_reducible refine gate_dst (N := 12) rfl ?_); refine Kd.R_make (Kd.int .u32) _ 80 rfl (N := 12) rfl 62 _ _ rfl (l0.length : Int) rfl rfl Tryz.underlying62 (.int .u32 0) 4 info80 rfl (by decide) (by omega) 0 (ok := fun _ => True) (okp := fun _ => True) rfl (fun _ hk => hk) trivial (of_decide_eq_true zq0) (Nat.le_trans (Nat.mul_le_mul_right _ (of_decide_eq_true zq0 : (l0.length : Int).toNat ≤ 70368744177664)) (by omega)) (Below.refl _ _) (Nat.le_refl _) ?_; intro v1 w2 ho6 hb hg_ hnew_; clear hg_ hnew_; (first | rw [← Y1.out] at ho6 | (simp only [Int.reduceToNat] at ho6; rw [← Y1.out] at ho6)); have O1 := Aside0.mk (Kd.R_lower (Kd.R_newM (M := fun k_ => (w.heap.size ≤ k_)) ho6 (below_size zH) (fun k_ h_ => h_)) (below_size zH)); replace HB := sB hb; clear hb ho6)
 go_loopg [6, 7] k (fun kq v2 v3 w' => ∃ (x1 : List Int) (x2 : Int) (x3 : Int), v2 = .int .u64 x2 ∧ v3 = .int .i64 x3 ∧ Aside0 (R1minus.l0 kq l0 l1 x1 x2 x3 = some r) ∧ Aside0 (kq ≤ k) ∧ Aside0 (Kd.R (Kd.int .u32) 80 w' w.heap.size (fun k_ => (w.heap.size ≤ k_)) v1 x1) ∧ Aside0 (Below w.heap.size w w'))
 case atStart => exact ⟨(y1), (0), (0), zq1, zq1, H', ⟨Nat.le_refl _⟩, ⟨zq20⟩, ⟨zH⟩⟩
 case round =>
  clear H'
  obtain ⟨x1, x2, x3, rfl, rfl, HA, HK1, HO_5, HB⟩ := hrel
  cases gk with
  | zero => exact absurd HA.out (by simp [R1minus.l0])
  | succ k1 =>
   have H := HA.out
   clear HA
   simp only [R1minus.l0] at H
   replace H := iL H
   rcases H with ⟨c4b0, H⟩ | ⟨c4b0, H⟩
   ·replace H := iL H
    rcases H with ⟨c5b0, H⟩ | ⟨c5b0, H⟩
    ·replace ⟨c6b0, H⟩ := iteD H
     replace H := iL H
     rcases H with ⟨c7b0, H⟩ | ⟨c7b0, H⟩
     ·replace ⟨c8b0, H⟩ := iteD H
      generalize yh2 : (x1.set (x3 : Int).toNat ((IntKind.u64.wrap ((IntKind.u64.wrap ((IntKind.u64.wrap (rd l0 x3)) + 4294967296)) - (IntKind.u64.wrap (x2 + (IntKind.u64.wrap (rd l1 x3)))))) % 4294967296) : List Int) = y2 at H
      have Y2 := Aside0.mk yh2.symm; clear yh2
      have H' := Aside0.mk H
      clear H
      obtain ⟨ad1, e1, hx1, p1, q1⟩ := atI HR1.out x3
      cases e1
      (try replace hx1 := hM HB hx1)
      obtain ⟨ad2, e2, hx2, p2, q2⟩ := atI HR0.out x3
      cases e2
      (try replace hx2 := hM HB hx2)
      have p3 : 0 ≤ (x3 : Int) := of_decide_eq_true zq0
      have q3 : (x3 : Int) < ((x1.length : Int) : Int) := of_decide_eq_true zq0
      obtain ⟨go1, d1, u1, g1, gl12, cl12, HG12⟩ := Kd.R_form HO_5.out (by omega)
      (first | cases u1 | (injection u1 with ea_ en_ ec_; (first | subst ea_ | (injection ea_ with ea_; subst ea_)); subst ec_; clear en_))
      have GB1 := Aside0.mk g1
      have GG12 := Aside0.mk HG12
      clear g1 gl12 HG12
      obtain ⟨hx3, hf12_0⟩ := Kd.R_celln 0 HO_5.out (x3 : Int) p3 q3
      (try simp only [Go.IntWalk.toNatUp] at hx3 hf12_0)
      replace p3 := eq_true p3
      replace q3 := eq_true q3
      have HP1 := Kd.R_putg HO_5.out (x3 : Int) ((IntKind.u64.wrap ((IntKind.u64.wrap ((IntKind.u64.wrap (rd l0 x3)) + 4294967296)) - (IntKind.u64.wrap (x2 + (IntKind.u64.wrap (rd l1 x3)))))) % 4294967296)
      go_wp2_with (refine stR 80 47 HP1 Y2 fun w3 hw hg hp_ => ?_; clear HP1; replace HO_5 := Aside0.mk (hp_); replace HB := bS2 hw HB GB1; clear hg hw hp_)
      go_roundg k1
      case measure => have := HK1.out; omega
      case rel => exact ⟨(y2), (1), (wrap64 (x3 + 1)), zq1, zq1, H', ⟨zq4⟩, ⟨zR⟩, ⟨zH⟩⟩
     ·replace ⟨c8b0, H⟩ := iteD H
      generalize yh2 : (x1.set (x3 : Int).toNat ((IntKind.u64.wrap ((IntKind.u64.wrap (rd l0 x3)) - (IntKind.u64.wrap (x2 + (IntKind.u64.wrap (rd l1 x3)))))) % 4294967296) : List Int) = y2 at H
      have Y2 := Aside0.mk yh2.symm; clear yh2
      have H' := Aside0.mk H
      clear H
      obtain ⟨ad1, e1, hx1, p1, q1⟩ := atI HR1.out x3
      cases e1
      (try replace hx1 := hM HB hx1)
      obtain ⟨ad2, e2, hx2, p2, q2⟩ := atI HR0.out x3
      cases e2
      (try replace hx2 := hM HB hx2)
      have p3 : 0 ≤ (x3 : Int) := of_decide_eq_true zq0
      have q3 : (x3 : Int) < ((x1.length : Int) : Int) := of_decide_eq_true zq0
      obtain ⟨go1, d1, u1, g1, gl16, cl16, HG16⟩ := Kd.R_form HO_5.out (by omega)
      (first | cases u1 | (injection u1 with ea_ en_ ec_; (first | subst ea_ | (injection ea_ with ea_; subst ea_)); subst ec_; clear en_))
      have GB1 := Aside0.mk g1
      have GG16 := Aside0.mk HG16
      clear g1 gl16 HG16
      obtain ⟨hx3, hf16_0⟩ := Kd.R_celln 0 HO_5.out (x3 : Int) p3 q3
      (try simp only [Go.IntWalk.toNatUp] at hx3 hf16_0)
      replace p3 := eq_true p3
      replace q3 := eq_true q3
      have HP1 := Kd.R_putg HO_5.out (x3 : Int) ((IntKind.u64.wrap ((IntKind.u64.wrap (rd l0 x3)) - (IntKind.u64.wrap (x2 + (IntKind.u64.wrap (rd l1 x3)))))) % 4294967296)
      go_wp2_with (refine stR 80 47 HP1 Y2 fun w3 hw hg hp_ => ?_; clear HP1; replace HO_5 := Aside0.mk (hp_); replace HB := bS2 hw HB GB1; clear hg hw hp_)
      go_roundg k1
      case measure => have := HK1.out; omega
      case rel => exact ⟨(y2), (0), (wrap64 (x3 + 1)), zq1, zq1, H', ⟨zq4⟩, ⟨zR⟩, ⟨zH⟩⟩
    ·replace ⟨c6b0, H⟩ := iteD H
     replace H := iL H
     rcases H with ⟨c7b0, H⟩ | ⟨c7b0, H⟩
     ·replace ⟨c8b0, H⟩ := iteD H
      generalize yh2 : (x1.set (x3 : Int).toNat ((IntKind.u64.wrap ((IntKind.u64.wrap ((IntKind.u64.wrap (rd l0 x3)) + 4294967296)) - x2)) % 4294967296) : List Int) = y2 at H
      have Y2 := Aside0.mk yh2.symm; clear yh2
      have H' := Aside0.mk H
      clear H
      obtain ⟨ad1, e1, hx1, p1, q1⟩ := atI HR0.out x3
      cases e1
      (try replace hx1 := hM HB hx1)
      have p2 : 0 ≤ (x3 : Int) := of_decide_eq_true zq0
      have q2 : (x3 : Int) < ((x1.length : Int) : Int) := of_decide_eq_true zq0
      obtain ⟨go1, d1, u1, g1, gl22, cl22, HG22⟩ := Kd.R_form HO_5.out (by omega)
      (first | cases u1 | (injection u1 with ea_ en_ ec_; (first | subst ea_ | (injection ea_ with ea_; subst ea_)); subst ec_; clear en_))
      have GB1 := Aside0.mk g1
      have GG22 := Aside0.mk HG22
      clear g1 gl22 HG22
      obtain ⟨hx2, hf22_0⟩ := Kd.R_celln 0 HO_5.out (x3 : Int) p2 q2
      (try simp only [Go.IntWalk.toNatUp] at hx2 hf22_0)
      replace p2 := eq_true p2
      replace q2 := eq_true q2
      have HP1 := Kd.R_putg HO_5.out (x3 : Int) ((IntKind.u64.wrap ((IntKind.u64.wrap ((IntKind.u64.wrap (rd l0 x3)) + 4294967296)) - x2)) % 4294967296)
      go_wp2_with (refine stR 80 47 HP1 Y2 fun w3 hw hg hp_ => ?_; clear HP1; replace HO_5 := Aside0.mk (hp_); replace HB := bS2 hw HB GB1; clear hg hw hp_)
      go_roundg k1
      case measure => have := HK1.out; omega
      case rel => exact ⟨(y2), (1), (wrap64 (x3 + 1)), zq1, zq1, H', ⟨zq4⟩, ⟨zR⟩, ⟨zH⟩⟩
     ·replace ⟨c8b0, H⟩ := iteD H
      generalize yh2 : (x1.set (x3 : Int).toNat ((IntKind.u64.wrap ((IntKind.u64.wrap (rd l0 x3)) - x2)) % 4294967296) : List Int) = y2 at H
      have Y2 := Aside0.mk yh2.symm; clear yh2
      have H' := Aside0.mk H
      clear H
      obtain ⟨ad1, e1, hx1, p1, q1⟩ := atI HR0.out x3
      cases e1
      (try replace hx1 := hM HB hx1)
      have p2 : 0 ≤ (x3 : Int) := of_decide_eq_true zq0
      have q2 : (x3 : Int) < ((x1.length : Int) : Int) := of_decide_eq_true zq0
      obtain ⟨go1, d1, u1, g1, gl26, cl26, HG26⟩ := Kd.R_form HO_5.out (by omega)
      (first | cases u1 | (injection u1 with ea_ en_ ec_; (first | subst ea_ | (injection ea_ with ea_; subst ea_)); subst ec_; clear en_))
      have GB1 := Aside0.mk g1
      have GG26 := Aside0.mk HG26
      clear g1 gl26 HG26
      obtain ⟨hx2, hf26_0⟩ := Kd.R_celln 0 HO_5.out (x3 : Int) p2 q2
      (try simp only [Go.IntWalk.toNatUp] at hx2 hf26_0)
      replace p2 := eq_true p2
      replace q2 := eq_true q2
      have HP1 := Kd.R_putg HO_5.out (x3 : Int) ((IntKind.u64.wrap ((IntKind.u64.wrap (rd l0 x3)) - x2)) % 4294967296)
      go_wp2_with (refine stR 80 47 HP1 Y2 fun w3 hw hg hp_ => ?_; clear HP1; replace HO_5 := Aside0.mk (hp_); replace HB := bS2 hw HB GB1; clear hg hw hp_)
      go_roundg k1
      case measure => have := HK1.out; omega
      case rel => exact ⟨(y2), (0), (wrap64 (x3 + 1)), zq1, zq1, H', ⟨zq4⟩, ⟨zR⟩, ⟨zH⟩⟩
   ·replace ⟨t1, A2, H⟩ := bS H
    obtain rfl := sI H
    obtain ⟨P1, d1, u1⟩ := Kd.R_slice HO_5.out
    subst u1
    go_wp2_with (refine gR 49 Tryz.func70 (R1strip.calls k1 (fun k_ => some k_ = (.slice P1 x1.length d1 : Value).ownBlock) _ _ x1 t1 _ ?side1 A2.out) fun v4 w3 ho0 hb => ?_; (case side1 => exact Kd.R_V (Kd.R_tight rfl (HO_5.out))); have O2 := Aside0.mk (Kd.V_lower (Kd.V_mono (ok' := fun k_ => (w.heap.size ≤ k_)) ho0 (fun k_ hk_ => Or.elim hk_ (fun hs_ => ((HO_5.out).1 k_ hs_.symm)) (fun hn_ => (Nat.le_trans (below_size zH) hn_)))) (below_size zH)); replace HO_5 := rB HO_5 hb; replace HB := sB hb; (try clear hb); (try clear ho0))
    go_ret
    exact ⟨_, zE, zV, zH⟩
def R1GCD.f (k : Nat) (a0 a1 : ByteArray) : Option (ByteArray) := (R1limbs.f k a0).bind fun t467 => ((R1limbs.f k a1).bind fun t470 => ((R1common.f k t467 t470).bind fun t473 => ((R1text.f k t473).bind fun t476 => (some t476))))
theorem R1GCD.calls (k : Nat) (a0 a1 r : ByteArray) (w : World) (H : R1GCD.f k a0 a1 = some r) :
 Calls Tryz.prog 69 #[.string a0, .string a1] w fun e w' => e = .returned (.string r) ∧ Below w.heap.size w w' := by
 have HB := Aside0.mk (Below.refl w.heap.size w)
 unfold R1GCD.f at H
 replace ⟨t1, A1, H⟩ := bS H
 replace ⟨t2, A2, H⟩ := bS H
 replace ⟨t3, A3, H⟩ := bS H
 replace ⟨t4, A4, H⟩ := bS H
 obtain rfl := sI H
 go_enter Tryz.func69, Tryz.ntmps69
 go_wp2_with (first | (refine gR 6 Tryz.func46 (R1limbs.calls _ _ _ _ A1.out) fun v1 w1 ho0 hb => ?_; have O1 := Aside0.mk (Kd.R_lower ho0 (below_size zH)); replace HB := sB hb; (try clear hb); (try clear ho0)) | (refine gR 8 Tryz.func46 (R1limbs.calls _ _ _ _ A2.out) fun v2 w2 ho0 hb => ?_; have O2 := Aside0.mk (Kd.R_lower (Kd.R_new' ho0 (Kd.R_lt zq2)) (below_size zH)); replace O1 := Aside0.mk (Kd.R_elder' zq2 (Kd.R_base ho0) hb); replace HB := sB hb; (try clear hb); (try clear ho0); obtain ⟨P1, d1, u1⟩ := Kd.R_slice O1.out; subst u1; obtain ⟨P2, d2, u2⟩ := Kd.R_slice O2.out; subst u2) | (refine gR 9 Tryz.func71 (R1common.calls k (fun k_ => some k_ = (.slice P1 t1.length d1 : Value).ownBlock) _ _ t1 (fun k_ => some k_ = (.slice P2 t2.length d2 : Value).ownBlock) _ _ t2 t3 _ ?side1 ?side2 A3.out) fun v3 w3 ho0 hb => ?_; (case side1 => exact Kd.R_V (Kd.R_tight rfl (O1.out))); (case side2 => exact Kd.R_V (Kd.R_tight rfl (O2.out))); have O3 := Aside0.mk (Kd.V_lower (Kd.V_mono (ok' := fun k_ => True) ho0 (fun k_ hk_ => trivial)) (below_size zH)); replace O1 := rB O1 hb; replace O2 := rB O2 hb; replace HB := sB hb; (try clear hb); (try clear ho0); obtain ⟨P3, d3, u3⟩ := Kd.V_slice O3.out; subst u3) | (refine gB 10 Tryz.func73 (R1text.calls k _ _ t3 t4 _ ?side1 ?side2 A4.out) fun w4 hb HB => ?_; (case side1 => exact sC (Kd.V_reads' O3.out).2.2); (case side2 => exact (Kd.V_reads' O3.out).2.1); replace O1 := rB O1 hb; replace O2 := rB O2 hb; replace O3 := vB O3 hb; clear hb))
 go_ret
 exact ⟨zE, zH⟩
def R1FromUint.f (k : Nat) (a0 : Int) : Option (ByteArray) := (R1text.f k (([(a0) % 4294967296, (a0 / 4294967296) % 4294967296] : List Int))).bind fun t480 => (some t480)
theorem R1FromUint.calls (k : Nat) (a0 : Int) (r : ByteArray) (w : World) (H : R1FromUint.f k a0 = some r) :
 Calls Tryz.prog 52 #[.int .u64 a0] w fun e w' => e = .returned (.string r) ∧ Below w.heap.size w w' := by
 have HB := Aside0.mk (Below.refl w.heap.size w)
 unfold R1FromUint.f at H
 generalize yh1 : (([(a0) % 4294967296, (a0 / 4294967296) % 4294967296] : List Int) : List Int) = y1 at H
 have Y1 := Aside0.mk yh1.symm; clear yh1
 replace ⟨t1, A1, H⟩ := bS H
 obtain rfl := sI H
 go_enter Tryz.func52, Tryz.ntmps52
 go_wp2_with (first | ((with_reducible refine gate_dst (N := 8) rfl ?_); refine Kd.R_lit (Kd.int .u32) _ 80 ?hg (N := 8) ?hd (xs := ([(a0) % 4294967296, (a0 / 4294967296) % 4294967296] : List Int)) (inner := [.int .u32 ((a0) % 4294967296), .int .u32 ((a0 / 4294967296) % 4294967296)]) (ok := fun _ => True) (okp := fun _ => True) ?hr ?hp (fun _ hk => hk) trivial (Below.refl _ _) (Nat.le_refl _) (by simp) ?_; (case hd => rfl); (case hg => rfl); (case hr => first | (go_simp; done) | (go_simp; rfl)); (case hp => exact (Reps.one (show Kd.M (Kd.int .u32) _ _ _ ((a0) % 4294967296) [.int .u32 ((a0) % 4294967296)] from rfl) (Reps.one (show Kd.M (Kd.int .u32) _ _ _ ((a0 / 4294967296) % 4294967296) [.int .u32 ((a0 / 4294967296) % 4294967296)] from rfl) (Reps.none _ _)))); intro v1 w1 ho4 hb hg_ hnew_; clear hg_ hnew_; (first | rw [← Y1.out] at ho4 | (simp only [Int.reduceToNat] at ho4; rw [← Y1.out] at ho4)); have O1 := Aside0.mk (Kd.R_lower ho4 (below_size zH)); replace HB := sB hb; clear hb ho4; obtain ⟨P1, d1, u1⟩ := Kd.R_slice O1.out; subst u1) | (refine gB 9 Tryz.func73 (R1text.calls k _ _ y1 t1 _ ?side1 ?side2 A1.out) fun w2 hb HB => ?_; (case side1 => exact sC (Kd.R_reads' O1.out).2.2); (case side2 => exact (Kd.R_reads' O1.out).2.1); replace O1 := rB O1 hb; clear hb))
 go_ret
 exact ⟨zE, zH⟩
def R1size.f (a0 : Int) : Option (Int) := if a0 < 0 then (some (IntKind.u64.wrap ((IntKind.u64.wrap (wrap64 (-(wrap64 (a0 + 1))))) + 1))) else (some (IntKind.u64.wrap (a0)))
theorem R1size.calls (a0 r : Int) (w : World) (H : R1size.f a0 = some r) :
 Calls Tryz.prog 53 #[.int .i64 a0] w fun e w' => e = .returned (.int .u64 r) ∧ Drawn0 w w' := by
 unfold R1size.f at H
 replace H := iL H
 rcases H with ⟨c1b0, H⟩ | ⟨c1b0, H⟩
 obtain rfl := sI H
 rotate_left
 obtain rfl := sI H
 rotate_left
 all_goals
  go_enter Tryz.func53, Tryz.ntmps53
  go_wp2
  go_ret
  exact ⟨zq1, zq7⟩
def Q1Make.f (k : Nat) (a0 : Bool) (a1 a2 : ByteArray) : Option (Bool × ByteArray × ByteArray × Bool) := (N1Normalize.f k a2).bind fun t576 => (if t576.toList = ([] : List UInt8) then (some (false, (⟨#[]⟩ : ByteArray), (⟨#[]⟩ : ByteArray), false)) else ((Q1reduced.f k a0 a1 a2).bind fun bt577 => (some (bt577.1, bt577.2.1, bt577.2.2, true))))
theorem Q1Make.calls (k : Nat) (a0 : Bool) (a1 a2 : ByteArray) (r1 : Bool) (r2 r3 : ByteArray) (r4 : Bool) (w : World) (H : Q1Make.f k a0 a1 a2 = some (r1, r2, r3, r4)) :
 Calls Tryz.prog 66 #[.bool a0, .string a1, .string a2] w fun e w' => e = .returned (.tuple #[.agg #[.bool r1, .string r2, .string r3], .bool r4]) ∧ Below w.heap.size w w' := by
 have hu1 := Tryz.underlying23
 have HB := Aside0.mk (Below.refl w.heap.size w)
 unfold Q1Make.f at H
 replace ⟨t1, A1, H⟩ := bS H
 replace H := iQ H
 rcases H with ⟨c1b0, c1b1, H⟩ | ⟨c1b0, c1b1, H⟩
 ·simp only [Option.some.injEq, Prod.mk.injEq] at H
  obtain ⟨rfl, rfl, rfl, rfl⟩ := H
  go_enter Tryz.func66, Tryz.ntmps66
  go_wp2_with (first | (refine bxZ w 6 23 fun g1 w1 B1 G1 hg hb HB => ?_; clear hb hg) | (refine gF 9 Tryz.func60 (N1Normalize.calls _ _ _ _ A1.out) fun w1 hb HB => ?_; replace B1 := bB B1 hb; clear hb; obtain ⟨_, _, _, _, _, _⟩ := xB3 B1))
  refine pRt 23 #[.bool false, .string (⟨#[]⟩ : ByteArray), .string (⟨#[]⟩ : ByteArray)] B1 Tryz.underlying23 ?_
  exact ⟨zE, zH⟩
 ·replace ⟨⟨t2, t3, t4⟩, A2, H⟩ := bS H
  (try dsimp only at H)
  simp only [Option.some.injEq, Prod.mk.injEq] at H
  obtain ⟨rfl, rfl, rfl, rfl⟩ := H
  go_enter Tryz.func66, Tryz.ntmps66
  go_wp2_with (first | (refine bxZ w 6 23 fun g1 w1 B1 G1 hg hb HB => ?_; clear hb hg) | (refine gF 9 Tryz.func60 (N1Normalize.calls _ _ _ _ A1.out) fun w1 hb HB => ?_; replace B1 := bB B1 hb; clear hb) | (refine gB 15 Tryz.func35 (Q1reduced.calls _ _ _ _ _ _ _ _ A2.out) fun w2 hb HB => ?_; replace B1 := bB B1 hb; clear hb; obtain ⟨_, _, _, _, _, _⟩ := xB3 B1))
  refine pRt 23 #[.bool t2, .string t3, .string t4] B1 Tryz.underlying23 ?_
  exact ⟨zE, zH⟩
def Q1Divide.f (k : Nat) (a0_0 : Bool) (a0_1 a0_2 : ByteArray) (a1_0 : Bool) (a1_1 a1_2 : ByteArray) : Option (Bool × ByteArray × ByteArray × Bool) := (Q1clean.f k a0_0 a0_1 a0_2).bind fun bt583 => ((Q1clean.f k a1_0 a1_1 a1_2).bind fun bt586 => ((Q1den.f bt586.1 bt586.2.1 bt586.2.2).bind fun t589 => ((N1Multiply.f k bt583.2.1 t589).bind fun t590 => ((Q1den.f bt583.1 bt583.2.1 bt583.2.2).bind fun t591 => ((N1Multiply.f k t591 bt586.2.1).bind fun t592 => ((Q1Make.f k (bt583.1 != bt586.1) t590 t592).bind fun bt593 => (some (bt593.1, bt593.2.1, bt593.2.2.1, bt593.2.2.2))))))))
def Q1Divide.T2 : Bool × List (List Nat × List Nat) := (true, [([], []), ([0], [0]), ([], []), ([2], [2]), ([1, 3], [1, 3]), ([], []), ([5], [5]), ([], []), ([7], [7]), ([6, 8, 8], [6, 8]), ([], []), ([10, 9], [10]), ([], []), ([12], [12]), ([11, 13, 11], [11, 13]), ([4, 9, 14, 14], [4, 9, 14]), ([15], [15]), ([15], [15]), ([16, 15, 0, 1, 2, 3, 4, 5, 6, 7, 8, 9, 10, 11, 12, 13, 14, 15, 16, 17], [16]), ([17, 18, 0, 1, 2, 3, 4, 5, 6, 7, 8, 9, 10, 11, 12, 13, 14, 15, 16, 17, 18], [17])])
def Q1Divide.B2 : List Nat := [0, 1, 0, 4, 15, 0, 32, 0, 128, 480, 0, 2016, 0, 4096, 16352, 32767, 65535, 65535, 262143, 524287]
theorem Q1Divide.tab2 : rtab .any (opsOf Tryz.f39 2) = Q1Divide.T2 := by kernel_rfl
theorem Q1Divide.bits2 : waitsOk Q1Divide.T2.2 Q1Divide.B2 = true := by kernel_rfl
theorem Q1Divide.calls (k : Nat) (a0_0 : Bool) (a0_1 a0_2 : ByteArray) (a1_0 : Bool) (a1_1 a1_2 : ByteArray) (r1 : Bool) (r2 r3 : ByteArray) (r4 : Bool) (w : World) (H : Q1Divide.f k a0_0 a0_1 a0_2 a1_0 a1_1 a1_2 = some (r1, r2, r3, r4)) :
 Calls Tryz.prog 39 #[.agg #[.bool a0_0, .string a0_1, .string a0_2], .agg #[.bool a1_0, .string a1_1, .string a1_2]] w fun e w' => e = .returned (.tuple #[.agg #[.bool r1, .string r2, .string r3], .bool r4]) ∧ Below w.heap.size w w' := by
 have hu1 := Tryz.underlying23
 have HB := Aside0.mk (Below.refl w.heap.size w)
 unfold Q1Divide.f at H
 replace ⟨⟨t1, t2, t3⟩, A1, H⟩ := bS H
 (try dsimp only at H)
 replace ⟨⟨t4, t5, t6⟩, A2, H⟩ := bS H
 (try dsimp only at H)
 replace ⟨t7, A3, H⟩ := bS H
 replace ⟨t8, A4, H⟩ := bS H
 replace ⟨t9, A5, H⟩ := bS H
 replace ⟨t10, A6, H⟩ := bS H
 replace ⟨⟨t11, t12, t13, t14⟩, A7, H⟩ := bS H
 (try dsimp only at H)
 simp only [Option.some.injEq, Prod.mk.injEq] at H
 obtain ⟨rfl, rfl, rfl, rfl⟩ := H
 go_enter Tryz.func39, Tryz.ntmps39
 try go_wp2_with (first | (refine bxA w 2 #[.bool a0_0, .string a0_1, .string a0_2] 23 fun g1 w2 B1 G1 hg hb HB => ?_; clear hb hg) | (refine bxA w 3 #[.bool a1_0, .string a1_1, .string a1_2] 23 fun g2 w3 B2 G2 hg hb HB => ?_; obtain ⟨N1, N2⟩ := nP B1 hg; replace B1 := bB B1 hb; clear hb hg) | (refine bxZ w 4 23 fun g3 w4 B3 G3 hg hb HB => ?_; obtain ⟨N3, N4⟩ := nP B1 hg; obtain ⟨N5, N6⟩ := nP B2 hg; replace B1 := bB B1 hb; replace B2 := bB B2 hb; clear hb hg))
 replace B1 := bD B1
 replace B2 := bD B2
 replace B3 := bD B3
 replace HB := hD HB
 refine startC2 6 [4, 5] B1 B2 (fun hHeld => ?_)
 generalize w4.drew = w5 at B1 B2 B3 HB hHeld ⊢
 refine takeAk 0 6 (lB 6 1) rfl rfl hHeld ?_
 refine takeAk 2 8 (lB 6 5) rfl rfl hHeld ?_
 refine rcBk 1 7 Tryz.func34 (Q1clean.calls _ _ _ _ _ _ _ _ A1.out) hHeld br fun w6 hb hHeld => ?_
 refine rcBk 3 15 Tryz.func34 (Q1clean.calls _ _ _ _ _ _ _ _ A2.out) hHeld hb fun w7 hb hHeld => ?_
 replace B1 := bB B1 hb
 replace B2 := bB B2 hb
 replace B3 := bB B3 hb
 replace HB := sB hb
 clear hb
 refine last_ (i := 4) (N := none) (lB 6 31) rfl rfl (by kernel_rfl) (by decide) (fun K hK => ?_)
 have hs16 := cB B1 0 (.bool a0_0)
 have hfs16 := fB B1 0
 have hs17 := cB B1 1 (.string a0_1)
 have hfs17 := fB B1 1
 have hs18 := cB B1 2 (.string a0_2)
 have hfs18 := fB B1 2
 refine skip_ (w1 := ?_) (by rfl) rfl ?_ ?_
 rotate_left
 ·go_simp
  rfl
 refine hK.out _ _ ?_
 clear hK K
 refine last_ (i := 5) (N := none) (lB 6 63) rfl rfl (by kernel_rfl) (by decide) (fun K hK => ?_)
 have hs19 := cB B2 0 (.bool a1_0)
 have hfs19 := fB B2 0
 have hs20 := cB B2 1 (.string a1_1)
 have hfs20 := fB B2 1
 have hs21 := cB B2 2 (.string a1_2)
 have hfs21 := fB B2 2
 refine skip_ (w1 := ?_) (by rfl) rfl ?_ ?_
 rotate_left
 ·go_simp
  rfl
 refine hK.out _ _ ?_
 clear hK K
 refine done_ (by kernel_rfl) ?_
 try go_wp2
 generalize hW_ : ((((((w7.setCell ⟨g1, 0, none⟩ (.bool t1)).setCell ⟨g1, 1, none⟩ (.string t2)).setCell ⟨g1, 2, none⟩ (.string t3)).setCell ⟨g2, 0, none⟩ (.bool t4)).setCell ⟨g2, 1, none⟩ (.string t5)).setCell ⟨g2, 2, none⟩ (.string t6)) = w8
 replace B1 : Aside0 (w8.heap[g1]? = some (.cells #[.bool t1, .string t2, .string t3] 23 (0, 0))) := bG hW_ B1
 replace B2 : Aside0 (w8.heap[g2]? = some (.cells #[.bool t4, .string t5, .string t6] 23 (0, 0))) := bG hW_ B2
 replace B3 : Aside0 (w8.heap[g3]? = some (.cells #[.bool false, .string (⟨#[]⟩ : ByteArray), .string (⟨#[]⟩ : ByteArray)] 23 (0, 0))) := bG hW_ B3
 replace HB := hG hW_
 clear hW_
 replace B1 := bD B1
 replace B2 := bD B2
 replace B3 := bD B3
 replace HB := hD HB
 refine startC2 20 [] B1 B2 (fun hHeld => ?_); refine with_tabW Q1Divide.tab2 Q1Divide.bits2 (fun HT_ HW_ => ?_)
 generalize w8.drew = w9 at B1 B2 B3 HB hHeld ⊢
 refine pA 0 1 ?_
 refine pA 2 5 ?_
 refine pA 5 37 ?_
 refine pA 12 4133 ?_
 refine tA 1 4135 hHeld ?_
 refine tA 3 4143 hHeld ?_
 refine pA 4 4159 ?_
 refine tA 6 4223 hHeld ?_
 refine tA 7 4351 hHeld ?_
 refine tA 10 5375 hHeld ?_
 refine tA 13 13567 hHeld ?_
 refine rcB 8 13823 Tryz.func37 (Q1den.calls _ _ _ _ _ A3.out) hHeld br fun w10 hb hHeld => ?_
 refine rcB 9 14335 Tryz.func36 (N1Multiply.calls _ _ _ _ _ A4.out) hHeld hb fun w11 hb hHeld => ?_
 refine rcB 11 16383 Tryz.func37 (Q1den.calls _ _ _ _ _ A5.out) hHeld hb fun w12 hb hHeld => ?_
 refine rcB 14 32767 Tryz.func36 (N1Multiply.calls _ _ _ _ _ A6.out) hHeld hb fun w13 hb hHeld => ?_
 refine rcB 15 65535 Tryz.func66 (Q1Make.calls _ _ _ _ _ _ _ _ _ A7.out) hHeld hb fun w14 hb hHeld => ?_
 refine pA 16 131071 ?_
 refine pA 17 262143 ?_
 replace B1 := bB B1 hb
 replace B2 := bB B2 hb
 replace B3 := bB B3 hb
 replace HB := sB hb
 clear hb
 refine one_ (i := 18) (N := none) (lB 20 524287) rfl rfl (one_of HT_.out (by kernel_rfl)) (by decide) (fun K hK => ?_)
 have hs29 := cB B3 0 (.bool false)
 have hfs29 := fB B3 0
 have hs30 := cB B3 1 (.string (⟨#[]⟩ : ByteArray))
 have hfs30 := fB B3 1
 have hs31 := cB B3 2 (.string (⟨#[]⟩ : ByteArray))
 have hfs31 := fB B3 2
 refine skip_ (w1 := ?_) (by rfl) rfl ?_ ?_
 rotate_left
 ·go_simp
  rfl
 refine hK.out _ _ zC (fun hHeld => ?_)
 clear hK K
 refine pA 19 1048575 ?_
 refine done_ (done_of HT_.out (by kernel_rfl)) ?_
 try go_wp2
 refine pRt 23 #[.bool t11, .string t12, .string t13] B3 Tryz.underlying23 ?_
 exact ⟨zE, zH⟩
def Q1magnitude.f (k : Nat) (a0 : Int) : Option (ByteArray) := if a0 < 0 then ((N1FromUint.f k (IntKind.u64.wrap (-(IntKind.u64.wrap (a0))))).bind fun t597 => (some t597)) else ((N1FromUint.f k (IntKind.u64.wrap (a0))).bind fun t598 => (some t598))
theorem Q1magnitude.calls (k : Nat) (a0 : Int) (r : ByteArray) (w : World) (H : Q1magnitude.f k a0 = some r) :
 Calls Tryz.prog 65 #[.int .i64 a0] w fun e w' => e = .returned (.string r) ∧ Below w.heap.size w w' := by
 have HB := Aside0.mk (Below.refl w.heap.size w)
 unfold Q1magnitude.f at H
 replace H := iL H
 rcases H with ⟨c1b0, H⟩ | ⟨c1b0, H⟩
 ·replace ⟨t1, A1, H⟩ := bS H
  obtain rfl := sI H
  go_enter Tryz.func65, Tryz.ntmps65
  go_wp2_with (refine gB 8 Tryz.func80 (N1FromUint.calls _ _ _ _ A1.out) fun w1 hb HB => ?_; clear hb)
  go_ret
  exact ⟨zE, zH⟩
 ·replace ⟨t1, A1, H⟩ := bS H
  obtain rfl := sI H
  go_enter Tryz.func65, Tryz.ntmps65
  go_wp2_with (refine gB 11 Tryz.func80 (N1FromUint.calls _ _ _ _ A1.out) fun w1 hb HB => ?_; clear hb)
  go_ret
  exact ⟨zE, zH⟩
def Q1Int.f (k : Nat) (a0 : Int) : Option (Bool × ByteArray × ByteArray) := (Q1magnitude.f k a0).bind fun t600 => ((Q1reduced.f k (decide (a0 < 0)) t600 (⟨#[1]⟩ : ByteArray)).bind fun bt601 => (some (bt601.1, bt601.2.1, bt601.2.2)))
theorem Q1Int.calls (k : Nat) (a0 : Int) (r1 : Bool) (r2 r3 : ByteArray) (w : World) (H : Q1Int.f k a0 = some (r1, r2, r3)) :
 Calls Tryz.prog 38 #[.int .i64 a0] w fun e w' => e = .returned (.agg #[.bool r1, .string r2, .string r3]) ∧ Below w.heap.size w w' := by
 have hu1 := Tryz.underlying23
 have HB := Aside0.mk (Below.refl w.heap.size w)
 unfold Q1Int.f at H
 replace ⟨t1, A1, H⟩ := bS H
 replace ⟨⟨t2, t3, t4⟩, A2, H⟩ := bS H
 (try dsimp only at H)
 simp only [Option.some.injEq, Prod.mk.injEq] at H
 obtain ⟨rfl, rfl, rfl⟩ := H
 go_enter Tryz.func38, Tryz.ntmps38
 go_wp2_with (first | (refine bxZ w 2 23 fun g1 w1 B1 G1 hg hb HB => ?_; clear hb hg) | (refine gB 6 Tryz.func65 (Q1magnitude.calls _ _ _ _ A1.out) fun w2 hb HB => ?_; replace B1 := bB B1 hb; clear hb) | (refine gB 7 Tryz.func35 (Q1reduced.calls _ _ _ _ _ _ _ _ A2.out) fun w3 hb HB => ?_; replace B1 := bB B1 hb; clear hb; obtain ⟨_, _, _, _, _, _⟩ := xB3 B1))
 refine pR 23 #[.bool t2, .string t3, .string t4] B1 Tryz.underlying23 ?_
 exact ⟨zE, zH⟩
def R1Valid.j0 : Nat → Bool → Bool → ByteArray → ByteArray → Option (Bool)
 | 0, _, _, _, _ => none
 | k + 1, x21, x605000, x605001, x605002 => if x21 = true then (some false) else (if x605001.toList = ([] : List UInt8) then (if x605000 = true then (some false) else (some (x605002.toList == ([] : List UInt8)))) else (if x605002.toList = ([] : List UInt8) then (some true) else ((R1GCD.f k x605001 x605002).bind fun t607 => (some (t607.toList == ([1] : List UInt8))))))
def R1Valid.f (k : Nat) (a0_0 : Bool) (a0_1 a0_2 : ByteArray) : Option (Bool) := (R1Normalize.f k a0_1).bind fun t605 => (if t605.toList = a0_1.toList then ((R1Normalize.f k a0_2).bind fun t606 => (if t606.toList = a0_2.toList then (R1Valid.j0 k (a0_2.toList == ([1] : List UInt8)) a0_0 a0_1 a0_2) else (R1Valid.j0 k true a0_0 a0_1 a0_2))) else (R1Valid.j0 k true a0_0 a0_1 a0_2))
theorem R1Valid.calls (k : Nat) (a0_0 : Bool) (a0_1 a0_2 : ByteArray) (r : Bool) (w : World) (H : R1Valid.f k a0_0 a0_1 a0_2 = some r) :
 Calls Tryz.prog 43 #[.agg #[.bool a0_0, .string a0_1, .string a0_2]] w fun e w' => e = .returned (.bool r) ∧ Below w.heap.size w w' := by
 have hu1 := Tryz.underlying23
 have HB := Aside0.mk (Below.refl w.heap.size w)
 unfold R1Valid.f at H
 have HC2 := Aside0.mk H
 clear H
 go_enter Tryz.func43, Tryz.ntmps43
 go_upto_region 1 with (refine bxA w 1 #[.bool a0_0, .string a0_1, .string a0_2] 23 fun g1 w1 B1 G1 hg hb HB => ?_; clear hb hg)
 repeat (go_quiet ((refine bxA w 1 #[.bool a0_0, .string a0_1, .string a0_2] 23 fun g1 w1 B1 G1 hg hb HB => ?_; clear hb hg)); go_upto_region 1 with (refine bxA w 1 #[.bool a0_0, .string a0_1, .string a0_2] 23 fun g1 w1 B1 G1 hg hb HB => ?_; clear hb hg))
 (try simp only [Act.put, List.setIfInBounds_toArray, List.set_cons_zero, List.set_cons_succ])
 go_cut [21] (fun v1 wc => ∃ (kq : Nat) (x1 : Bool), v1 = .bool x1 ∧ Aside0 (R1Valid.j0 kq x1 a0_0 a0_1 a0_2 = some r) ∧ Aside0 (kq ≤ k) ∧ Aside0 (wc.heap[g1]? = some (.cells #[.bool a0_0, .string a0_1, .string a0_2] 23 (0, 0))) ∧ Aside0 (Below w.heap.size w wc))
 case first =>
  have H := HC2.out
  clear HC2
  replace ⟨t1, A1, H⟩ := bS H
  replace H := iQ H
  rcases H with ⟨c1b0, c1b1, H⟩ | ⟨c1b0, c1b1, H⟩
  ·(first | rw [c1b0] | (simp only [i64_w, i32_w]; rw [c1b0]) | rw [c1b1] | skip)
   replace ⟨t2, A2, H⟩ := bS H
   replace H := iQ H
   rcases H with ⟨c2b0, c2b1, H⟩ | ⟨c2b0, c2b1, H⟩
   have H' := Aside0.mk H
   clear H
   obtain ⟨_, _, _, _, _, _⟩ := xB3 B1
   rotate_left
   have H' := Aside0.mk H
   clear H
   obtain ⟨_, _, _, _, _, _⟩ := xB3 B1
   rotate_left
   all_goals
    go_wp2_with (first | (go_at_call 68; (with_reducible refine (R1Normalize.calls (H := A1.out) ..).mono ?_); rintro e w' ⟨rfl, ⟨nd, rfl⟩⟩; (try exact dN)) | (go_at_call 68; (with_reducible refine (R1Normalize.calls (H := A2.out) ..).mono ?_); rintro e w' ⟨rfl, ⟨nd, rfl⟩⟩; (try exact dN)))
    repeat (go_quiet (first | (go_at_call 68; (with_reducible refine (R1Normalize.calls (H := A1.out) ..).mono ?_); rintro e w' ⟨rfl, ⟨nd, rfl⟩⟩; (try exact dN)) | (go_at_call 68; (with_reducible refine (R1Normalize.calls (H := A2.out) ..).mono ?_); rintro e w' ⟨rfl, ⟨nd, rfl⟩⟩; (try exact dN))); try go_wp2_with (first | (go_at_call 68; (with_reducible refine (R1Normalize.calls (H := A1.out) ..).mono ?_); rintro e w' ⟨rfl, ⟨nd, rfl⟩⟩; (try exact dN)) | (go_at_call 68; (with_reducible refine (R1Normalize.calls (H := A2.out) ..).mono ?_); rintro e w' ⟨rfl, ⟨nd, rfl⟩⟩; (try exact dN))))
    go_meet
   ·case rel => exact ⟨_, ((a0_2.toList == ([1] : List UInt8))), zq1, H', ⟨zq6⟩, ⟨bC B1⟩, ⟨zH⟩⟩
   ·case rel => exact ⟨_, (true), zq1, H', ⟨zq6⟩, ⟨bC B1⟩, ⟨zH⟩⟩
  ·(first | rw [c1b0] | (simp only [i64_w, i32_w]; rw [c1b0]) | rw [c1b1] | skip)
   have H' := Aside0.mk H
   clear H
   obtain ⟨_, _, _, _, _, _⟩ := xB3 B1
   go_wp2_with (go_at_call 68; (with_reducible refine (R1Normalize.calls (H := A1.out) ..).mono ?_); rintro e w' ⟨rfl, ⟨nd, rfl⟩⟩; (try exact dN))
   repeat (go_quiet ((go_at_call 68; (with_reducible refine (R1Normalize.calls (H := A1.out) ..).mono ?_); rintro e w' ⟨rfl, ⟨nd, rfl⟩⟩; (try exact dN))); try go_wp2_with (go_at_call 68; (with_reducible refine (R1Normalize.calls (H := A1.out) ..).mono ?_); rintro e w' ⟨rfl, ⟨nd, rfl⟩⟩; (try exact dN)))
   go_meet
   case rel => exact ⟨_, (true), zq1, H', ⟨zq6⟩, ⟨bC B1⟩, ⟨zH⟩⟩
 case rest =>
  clear HC2
  obtain ⟨kq, x1, rfl, HA, HJ1, B1, HB⟩ := hcut
  cases kq with
  | zero => exact absurd HA.out (by simp [R1Valid.j0])
  | succ kj1 =>
   have H := HA.out
   clear HA
   simp only [R1Valid.j0] at H
   by_cases c2 : x1 = true
   ·subst c2
    rw [if_pos rfl] at H
    obtain rfl := sI H
    go_wp2
    repeat (go_quiet (fail); try go_wp2)
    go_ret
    exact ⟨zE, zH⟩
   ·replace c2 := Bool.eq_false_iff.mpr c2
    subst c2
    rw [if_neg (show ¬ (false = true) by decide)] at H
    replace H := iQ H
    rcases H with ⟨c3b0, c3b1, H⟩ | ⟨c3b0, c3b1, H⟩
    ·by_cases c4 : a0_0 = true
     ·subst c4
      rw [if_pos rfl] at H
      obtain rfl := sI H
      obtain ⟨_, _, _, _, _, _⟩ := xB3 B1
      go_wp2
      repeat (go_quiet (fail); try go_wp2)
      go_ret
      exact ⟨zE, zH⟩
     ·replace c4 := Bool.eq_false_iff.mpr c4
      subst c4
      rw [if_neg (show ¬ (false = true) by decide)] at H
      obtain rfl := sI H
      obtain ⟨_, _, _, _, _, _⟩ := xB3 B1
      go_wp2
      repeat (go_quiet (fail); try go_wp2)
      go_ret
      exact ⟨zE, zH⟩
    ·replace H := iQ H
     rcases H with ⟨c4b0, c4b1, H⟩ | ⟨c4b0, c4b1, H⟩
     ·obtain rfl := sI H
      obtain ⟨_, _, _, _, _, _⟩ := xB3 B1
      go_wp2
      repeat (go_quiet (fail); try go_wp2)
      go_ret
      exact ⟨zE, zH⟩
     ·replace ⟨t2, A2, H⟩ := bS H
      obtain rfl := sI H
      obtain ⟨_, _, _, _, _, _⟩ := xB3 B1
      go_wp2_with (go_at_call 69; (with_reducible refine (R1GCD.calls (H := A2.out) ..).mono ?_); rintro e w2 ⟨rfl, hb⟩; replace B1 := bB B1 hb; replace HB := sB hb; (try clear hb))
      repeat (go_quiet ((go_at_call 69; (with_reducible refine (R1GCD.calls (H := A2.out) ..).mono ?_); rintro e w2 ⟨rfl, hb⟩; replace B1 := bB B1 hb; replace HB := sB hb; (try clear hb))); try go_wp2_with (go_at_call 69; (with_reducible refine (R1GCD.calls (H := A2.out) ..).mono ?_); rintro e w2 ⟨rfl, hb⟩; replace B1 := bB B1 hb; replace HB := sB hb; (try clear hb)))
      go_ret
      exact ⟨zE, zH⟩
def R1Fix.f (k : Nat) (a0_0 : Bool) (a0_1 a0_2 : ByteArray) : Option (Bool × ByteArray × ByteArray) := (R1Valid.f k a0_0 a0_1 a0_2).bind fun t610 => (if t610 = true then (some (a0_0, a0_1, a0_2)) else (some (false, (⟨#[]⟩ : ByteArray), (⟨#[]⟩ : ByteArray))))
theorem R1Fix.calls (k : Nat) (a0_0 : Bool) (a0_1 a0_2 : ByteArray) (r1 : Bool) (r2 r3 : ByteArray) (w : World) (H : R1Fix.f k a0_0 a0_1 a0_2 = some (r1, r2, r3)) :
 Calls Tryz.prog 22 #[.agg #[.bool a0_0, .string a0_1, .string a0_2]] w fun e w' => e = .returned (.agg #[.bool r1, .string r2, .string r3]) ∧ Below w.heap.size w w' := by
 have hu1 := Tryz.underlying23
 have HB := Aside0.mk (Below.refl w.heap.size w)
 unfold R1Fix.f at H
 replace ⟨t1, A1, H⟩ := bS H
 by_cases c1 : t1 = true
 ·subst c1
  rw [if_pos rfl] at H
  simp only [Option.some.injEq, Prod.mk.injEq] at H
  obtain ⟨rfl, rfl, rfl⟩ := H
  go_enter Tryz.func22, Tryz.ntmps22
  go_wp2_with (first | (refine bxA w 1 #[.bool a0_0, .string a0_1, .string a0_2] 23 fun g1 w1 B1 G1 hg hb HB => ?_; clear hb hg) | (refine bxZ w 2 23 fun g2 w2 B2 G2 hg hb HB => ?_; obtain ⟨N1, N2⟩ := nP B1 hg; replace B1 := bB B1 hb; clear hb hg; have m1 := N1; have n1 := N2; obtain ⟨_, _, _, _, _, _⟩ := xB3 B1) | (refine gB 4 Tryz.func43 (R1Valid.calls _ _ _ _ _ _ A1.out) fun w3 hb HB => ?_; replace B1 := bB B1 hb; replace B2 := bB B2 hb; clear hb; obtain ⟨_, _, _, _, _, _⟩ := xB3 B1; obtain ⟨_, _, _, _, _, _⟩ := xB3 B2))
  refine pR 23 #[.bool a0_0, .string a0_1, .string a0_2] B2 Tryz.underlying23 ?_
  exact ⟨zE, zH⟩
 ·replace c1 := Bool.eq_false_iff.mpr c1
  subst c1
  rw [if_neg (show ¬ (false = true) by decide)] at H
  simp only [Option.some.injEq, Prod.mk.injEq] at H
  obtain ⟨rfl, rfl, rfl⟩ := H
  go_enter Tryz.func22, Tryz.ntmps22
  go_wp2_with (first | (refine bxA w 1 #[.bool a0_0, .string a0_1, .string a0_2] 23 fun g1 w1 B1 G1 hg hb HB => ?_; clear hb hg) | (refine bxZ w 2 23 fun g2 w2 B2 G2 hg hb HB => ?_; obtain ⟨N1, N2⟩ := nP B1 hg; replace B1 := bB B1 hb; clear hb hg; have m1 := N1; have n1 := N2; obtain ⟨_, _, _, _, _, _⟩ := xB3 B1) | (refine gB 4 Tryz.func43 (R1Valid.calls _ _ _ _ _ _ A1.out) fun w3 hb HB => ?_; replace B1 := bB B1 hb; replace B2 := bB B2 hb; clear hb; obtain ⟨_, _, _, _, _, _⟩ := xB3 B2))
  refine pR 23 #[.bool false, .string (⟨#[]⟩ : ByteArray), .string (⟨#[]⟩ : ByteArray)] B2 Tryz.underlying23 ?_
  exact ⟨zE, zH⟩
def R1Signum.f (a0_0 : Bool) (a0_1 a0_2 : ByteArray) : Option (Int) := if a0_1.toList = ([] : List UInt8) then (some 0) else (if a0_0 = true then (some (-1)) else (some 1))
theorem R1Signum.calls (a0_0 : Bool) (a0_1 a0_2 : ByteArray) (r : Int) (w : World) (H : R1Signum.f a0_0 a0_1 a0_2 = some r) :
 Calls Tryz.prog 67 #[.agg #[.bool a0_0, .string a0_1, .string a0_2]] w fun e w' => e = .returned (.int .i64 r) ∧ Below w.heap.size w w' := by
 have hu1 := Tryz.underlying23
 have HB := Aside0.mk (Below.refl w.heap.size w)
 unfold R1Signum.f at H
 replace H := iQ H
 rcases H with ⟨c1b0, c1b1, H⟩ | ⟨c1b0, c1b1, H⟩
 ·obtain rfl := sI H
  go_enter Tryz.func67, Tryz.ntmps67
  go_wp2_with (refine bxA w 1 #[.bool a0_0, .string a0_1, .string a0_2] 23 fun g1 w1 B1 G1 hg hb HB => ?_; clear hb hg; obtain ⟨_, _, _, _, _, _⟩ := xB3 B1)
  go_ret
  exact ⟨zE, zH⟩
 ·by_cases c2 : a0_0 = true
  ·subst c2
   rw [if_pos rfl] at H
   obtain rfl := sI H
   go_enter Tryz.func67, Tryz.ntmps67
   go_wp2_with (refine bxA w 1 #[.bool true, .string a0_1, .string a0_2] 23 fun g1 w1 B1 G1 hg hb HB => ?_; clear hb hg; obtain ⟨_, _, _, _, _, _⟩ := xB3 B1)
   go_ret
   exact ⟨zE, zH⟩
  ·replace c2 := Bool.eq_false_iff.mpr c2
   subst c2
   rw [if_neg (show ¬ (false = true) by decide)] at H
   obtain rfl := sI H
   go_enter Tryz.func67, Tryz.ntmps67
   go_wp2_with (refine bxA w 1 #[.bool false, .string a0_1, .string a0_2] 23 fun g1 w1 B1 G1 hg hb HB => ?_; clear hb hg; obtain ⟨_, _, _, _, _, _⟩ := xB3 B1)
   go_ret
   exact ⟨zE, zH⟩
def R1Sign.f (k : Nat) (a0_0 : Bool) (a0_1 a0_2 : ByteArray) : Option (Int) := (R1Fix.f k a0_0 a0_1 a0_2).bind fun bt613 => ((R1Signum.f bt613.1 bt613.2.1 bt613.2.2).bind fun t616 => (some t616))
theorem R1Sign.calls (k : Nat) (a0_0 : Bool) (a0_1 a0_2 : ByteArray) (r : Int) (w : World) (H : R1Sign.f k a0_0 a0_1 a0_2 = some r) :
 Calls Tryz.prog 42 #[.agg #[.bool a0_0, .string a0_1, .string a0_2]] w fun e w' => e = .returned (.int .i64 r) ∧ Below w.heap.size w w' := by
 have hu1 := Tryz.underlying23
 have HB := Aside0.mk (Below.refl w.heap.size w)
 unfold R1Sign.f at H
 replace ⟨⟨t1, t2, t3⟩, A1, H⟩ := bS H
 (try dsimp only at H)
 replace ⟨t4, A2, H⟩ := bS H
 obtain rfl := sI H
 go_enter Tryz.func42, Tryz.ntmps42
 go_wp2_with (first | (refine bxA w 1 #[.bool a0_0, .string a0_1, .string a0_2] 23 fun g1 w1 B1 G1 hg hb HB => ?_; clear hb hg; obtain ⟨_, _, _, _, _, _⟩ := xB3 B1) | (refine gB 4 Tryz.func22 (R1Fix.calls _ _ _ _ _ _ _ _ A1.out) fun w2 hb HB => ?_; replace B1 := bB B1 hb; clear hb) | (refine gB 5 Tryz.func67 (R1Signum.calls _ _ _ _ _ A2.out) fun w3 hb HB => ?_; replace B1 := bB B1 hb; clear hb))
 go_ret
 exact ⟨zE, zH⟩
mutual
def R1reduced.j0 : Nat → Bool → List Int → List Int → List Int → Bool → Option (Bool × ByteArray × ByteArray)
 | 0, _, _, _, _, _ => none
 | k + 1, x0, x1, x2, x7, x24 => if x24 = true then ((R1divide.f k x1 x7).bind fun bt629 => ((R1divide.f k x2 x7).bind fun bt635 => (R1reduced.j1 k x0 bt629.1 bt635.1))) else (R1reduced.j1 k x0 x1 x2)
def R1reduced.j1 : Nat → Bool → List Int → List Int → Option (Bool × ByteArray × ByteArray)
 | 0, _, _, _ => none
 | k + 1, x0, x1, x2 => (R1text.f k x1).bind fun t641 => (if (x2.length : Int) > 1 then ((R1text.f k x2).bind fun t643 => (some (x0, t641, t643))) else (if 0 < (x2.length : Int) then (if (rd x2 0) > 1 then ((R1text.f k x2).bind fun t645 => (some (x0, t641, t645))) else (some (x0, t641, (⟨#[]⟩ : ByteArray)))) else (none)))
end
def R1reduced.f (k : Nat) (a0 : Bool) (l1 l2 : List Int) : Option (Bool × ByteArray × ByteArray) := if (l1.length : Int) = 0 then (some (false, (⟨#[]⟩ : ByteArray), (⟨#[]⟩ : ByteArray))) else ((R1common.f k l1 l2).bind fun t625 => (if (t625.length : Int) > 1 then (R1reduced.j0 k a0 l1 l2 t625 true) else (if 0 < (t625.length : Int) then (R1reduced.j0 k a0 l1 l2 t625 (decide ((rd t625 0) > 1))) else (none))))
theorem R1reduced.calls (k : Nat) (a0 : Bool) (P1_ : Nat → Prop) (A1 : Option Addr) (c1 : Nat) (l1 : List Int) (P2_ : Nat → Prop) (A2 : Option Addr) (c2 : Nat) (l2 : List Int) (r1 : Bool) (r2 r3 : ByteArray) (w : World) (hs1 : Kd.V (Kd.int .u32) 80 w w.heap.size (fun k_ => P1_ k_) (.slice A1 l1.length c1) l1) (hs2 : Kd.V (Kd.int .u32) 80 w w.heap.size (fun k_ => P2_ k_) (.slice A2 l2.length c2) l2) (H : R1reduced.f k a0 l1 l2 = some (r1, r2, r3)) :
 Calls Tryz.prog 47 #[.bool a0, .slice A1 l1.length c1, .slice A2 l2.length c2] w fun e w' => e = .returned (.agg #[.bool r1, .string r2, .string r3]) ∧ Below w.heap.size w w' := by
 have hu1 := Tryz.underlying23
 have O1 := Aside0.mk (show Kd.V (Kd.int .u32) 80 w w.heap.size (fun k_ => ((P1_ k_ ∨ P2_ k_) ∨ w.heap.size ≤ k_)) (.slice A1 l1.length c1) l1 from Kd.V_mono hs1 (fun k_ hk => .inl (.inl hk)))
 have O2 := Aside0.mk (show Kd.V (Kd.int .u32) 80 w w.heap.size (fun k_ => ((P1_ k_ ∨ P2_ k_) ∨ w.heap.size ≤ k_)) (.slice A2 l2.length c2) l2 from Kd.V_mono hs2 (fun k_ hk => .inl (.inr hk)))
 have HB := Aside0.mk (Below.refl w.heap.size w)
 unfold R1reduced.f at H
 by_cases c3 : (l1.length : Int) = 0
 ·rw [if_pos c3] at H
  have c3b0 := beq_iff_eq.mpr c3
  have c3b1 : ((l1.length : Int) != 0) = false := bne_eq_false_iff_eq.mpr c3
  clear c3
  simp only [Option.some.injEq, Prod.mk.injEq] at H
  obtain ⟨rfl, rfl, rfl⟩ := H
  go_enter Tryz.func47, Tryz.ntmps47
  go_wp2_with (refine bxZ w 6 23 fun g1 w1 B1 G1 hg hb _ => ?_; replace O1 := Aside0.mk (Kd.V_below (Kd.V_elderB zq16 g1 (Nat.le_of_eq hg.symm)) hb); replace O2 := Aside0.mk (Kd.V_below (Kd.V_elderB zq28 g1 (Nat.le_of_eq hg.symm)) hb); replace HB := sB hb; clear hb hg; obtain ⟨_, _, _, _, _, _⟩ := xB3 B1)
  refine pR 23 #[.bool false, .string (⟨#[]⟩ : ByteArray), .string (⟨#[]⟩ : ByteArray)] B1 Tryz.underlying23 ?_
  exact ⟨zE, zH⟩
 ·rw [if_neg c3] at H
  have c3b0 := beq_eq_false_iff_ne.mpr c3
  have c3b1 := bne_iff_ne.mpr c3
  have c3b2 : ¬ (l1 = []) := fun h_ => c3 (by rw [h_]; rfl)
  replace ⟨t1, A3, H⟩ := bS H
  have HC8 := Aside0.mk H
  clear H
  go_enter Tryz.func47, Tryz.ntmps47
  go_upto_region 4 with (first | (refine bxZ w 6 23 fun g1 w1 B1 G1 hg hb _ => ?_; replace O1 := Aside0.mk (Kd.V_below (Kd.V_elderB zq16 g1 (Nat.le_of_eq hg.symm)) hb); replace O2 := Aside0.mk (Kd.V_below (Kd.V_elderB zq28 g1 (Nat.le_of_eq hg.symm)) hb); replace HB := sB hb; clear hb hg) | (refine gR 15 Tryz.func71 (R1common.calls k (fun k_ => (((P1_ k_ ∨ P2_ k_) ∨ w.heap.size ≤ k_) ∧ k_ ≠ g1)) _ _ l1 (fun k_ => (((P1_ k_ ∨ P2_ k_) ∨ w.heap.size ≤ k_) ∧ k_ ≠ g1)) _ _ l2 t1 _ ?side1 ?side2 A3.out) fun v1 w2 ho0 hb => ?_; (case side1 => exact O1.out); (case side2 => exact O2.out); have O3 := Aside0.mk (Kd.V_lower (Kd.V_mono (ok' := fun k_ => ((P1_ k_ ∨ P2_ k_) ∨ w.heap.size ≤ k_) ∧ k_ ≠ g1) ho0 (fun k_ hk_ => ⟨Or.elim hk_ (fun hs_ => Or.elim hs_ (fun hs_ => hs_.1) (fun hs_ => hs_.1)) (fun hn_ => (.inr (Nat.le_trans (below_size zH) hn_))), Or.elim hk_ (fun hs_ => Or.elim hs_ (fun hs_ => hs_.2) (fun hs_ => hs_.2)) (fun hn_ => (Kd.freshB (g := g1) (o := .cells #[.bool false, .string (⟨#[]⟩ : ByteArray), .string (⟨#[]⟩ : ByteArray)] 23 (0, 0)) (by (with_reducible repeat (first | refine blk_drewN ?_ _ | refine blk_drew ?_ | refine blk_alloc ?_ _)); exact B1.out) k_ hn_))⟩)) (below_size zH)); replace O1 := vB O1 hb; replace O2 := vB O2 hb; replace B1 := bB B1 hb; replace HB := sB hb; (try clear hb); (try clear ho0)))
  (try simp only [Act.put, List.setIfInBounds_toArray, List.set_cons_zero, List.set_cons_succ])
  go_cut [24] (fun v2 wc => ∃ (kq : Nat) (x1 : Bool), v2 = .bool x1 ∧ Aside0 (R1reduced.j0 kq a0 l1 l2 t1 x1 = some (r1, r2, r3)) ∧ Aside0 (kq ≤ k) ∧ Aside0 (Kd.V (Kd.int .u32) 80 wc w.heap.size (fun k_ => ((P1_ k_ ∨ P2_ k_) ∨ w.heap.size ≤ k_) ∧ k_ ≠ g1) (.slice A1 l1.length c1) l1) ∧ Aside0 (Kd.V (Kd.int .u32) 80 wc w.heap.size (fun k_ => ((P1_ k_ ∨ P2_ k_) ∨ w.heap.size ≤ k_) ∧ k_ ≠ g1) (.slice A2 l2.length c2) l2) ∧ Aside0 (Kd.V (Kd.int .u32) 80 wc w.heap.size (fun k_ => ((P1_ k_ ∨ P2_ k_) ∨ w.heap.size ≤ k_) ∧ k_ ≠ g1) v1 t1) ∧ Aside0 (wc.heap[g1]? = some (.cells #[.bool false, .string (⟨#[]⟩ : ByteArray), .string (⟨#[]⟩ : ByteArray)] 23 (0, 0))) ∧ Aside0 (Below w.heap.size w wc))
  case first =>
   have H := HC8.out
   clear HC8
   by_cases c4 : (t1.length : Int) > 1
   ·rw [if_pos c4] at H
    have c4b0 := decide_eq_true c4
    have c4b1 : decide (1 < t1.length) = true := decide_eq_true (by omega)
    clear c4
    (first | rw [c4b0] | (simp only [i64_w, i32_w]; rw [c4b0]) | rw [c4b1] | skip)
    have H' := Aside0.mk H
    clear H
    obtain ⟨P1, d1, u1⟩ := Kd.V_slice O3.out
    subst u1
    go_wp2
    go_meet
    case rel => exact ⟨_, (true), zq1, H', ⟨zq6⟩, ⟨zV⟩, ⟨zV⟩, ⟨zV⟩, ⟨bC B1⟩, ⟨zH⟩⟩
   ·rw [if_neg c4] at H
    have c4b0 := decide_eq_false c4
    have c4b1 : decide (1 < t1.length) = false := decide_eq_false (by omega)
    clear c4
    (first | rw [c4b0] | (simp only [i64_w, i32_w]; rw [c4b0]) | rw [c4b1] | skip)
    replace H := of_ite H
    obtain ⟨c5, H⟩ := H
    have c5b0 := decide_eq_true c5
    have c5b1 : decide (0 < t1.length) = true := decide_eq_true (by omega)
    clear c5
    have H' := Aside0.mk H
    clear H
    obtain ⟨P1, d1, u1⟩ := Kd.V_slice O3.out
    subst u1
    obtain ⟨ad1, e1, hx1, p1, q1⟩ := atI (Kd.V_reads' O3.out).2.2 0
    cases e1
    have qi628 : (0 < t1.length) = True := eq_true (by have := of_eq_true q1; omega)
    (try rw [show ((0 : Int)).toNat = 0 from rfl] at hx1)
    (try rw [Addr.add_zero'] at hx1)
    go_wp2
    go_meet
    case rel => exact ⟨_, (decide ((rd t1 0) > 1)), zq1, H', ⟨zq6⟩, ⟨zV⟩, ⟨zV⟩, ⟨zV⟩, ⟨bC B1⟩, ⟨zH⟩⟩
  case rest =>
   clear HC8
   (try clear qi6); (try clear c5); (try clear c4); (try clear c4b0); (try clear c4b1); (try clear c6); (try clear c6b0); (try clear c6b1); (try clear cz1); (try clear cz2); (try clear cz3); (try clear fz1); (try clear fz2); (try clear fz3); (try clear hx1); (try clear p1); (try clear q1)
   obtain ⟨kq, x1, rfl, HA, HJ7, HO_1, HO_2, HO_7, B1, HB⟩ := hcut
   cases kq with
   | zero => exact absurd HA.out (by simp [R1reduced.j0])
   | succ kj7 =>
    have H := HA.out
    clear HA
    simp only [R1reduced.j0] at H
    have HC15 := Aside0.mk H
    clear H
    go_upto_if 24 with (fail)
    go_cut [1, 2] (fun v3 v4 wc => ∃ (kq : Nat) (x2 : List Int) (x3 : List Int), Aside0 (R1reduced.j1 kq a0 x2 x3 = some (r1, r2, r3)) ∧ Aside0 (kq ≤ kj7) ∧ Aside0 (Kd.V (Kd.int .u32) 80 wc w.heap.size (fun k_ => ((P1_ k_ ∨ P2_ k_) ∨ w.heap.size ≤ k_) ∧ k_ ≠ g1) v3 x2) ∧ Aside0 (Kd.V (Kd.int .u32) 80 wc w.heap.size (fun k_ => ((P1_ k_ ∨ P2_ k_) ∨ w.heap.size ≤ k_) ∧ k_ ≠ g1) v4 x3) ∧ Aside0 (wc.heap[g1]? = some (.cells #[.bool false, .string (⟨#[]⟩ : ByteArray), .string (⟨#[]⟩ : ByteArray)] 23 (0, 0))) ∧ Aside0 (Below w.heap.size w wc))
    case first =>
     have H := HC15.out
     clear HC15
     by_cases c7 : x1 = true
     ·subst c7
      rw [if_pos rfl] at H
      replace ⟨⟨t2, t3⟩, A4, H⟩ := bS H
      (try dsimp only at H)
      replace ⟨⟨t4, t5⟩, A5, H⟩ := bS H
      (try dsimp only at H)
      have H' := Aside0.mk H
      clear H
      obtain ⟨P1, d1, u1⟩ := Kd.V_slice HO_7.out
      subst u1
      go_wp2_with (first | (refine goesLA 28 Tryz.func72 #[.slice A1 l1.length c1, .slice P1 t1.length d1] ?_; (with_reducible refine (R1divide.calls kj7 (fun k_ => (((P1_ k_ ∨ P2_ k_) ∨ w.heap.size ≤ k_) ∧ k_ ≠ g1)) _ _ l1 _ _ t1 t2 t3 _ ?side1 ?side2 ?side3 A4.out).mono ?_); (case side1 => exact HO_1.out); (case side2 => exact sC (Kd.V_reads' HO_7.out).2.2); (case side3 => exact (Kd.V_reads' HO_7.out).2.1); rintro e w3 ⟨v5, v6, rfl, ho0, ho1, hb⟩; refine ⟨_, rfl, ?_⟩; have O4 := Aside0.mk (Kd.V_lower (Kd.V_mono (ok' := fun k_ => ((P1_ k_ ∨ P2_ k_) ∨ w.heap.size ≤ k_) ∧ k_ ≠ g1) ho0 (fun k_ hk_ => ⟨Or.elim hk_ (fun hs_ => hs_.1) (fun hn_ => (.inr (Nat.le_trans (below_size zH) hn_))), Or.elim hk_ (fun hs_ => hs_.2) (fun hn_ => (Kd.freshB (g := g1) (o := .cells #[.bool false, .string (⟨#[]⟩ : ByteArray), .string (⟨#[]⟩ : ByteArray)] 23 (0, 0)) (by (with_reducible repeat (first | refine blk_drewN ?_ _ | refine blk_drew ?_ | refine blk_alloc ?_ _)); exact B1.out) k_ hn_))⟩)) (below_size zH)); have O5 := Aside0.mk (Kd.V_lower (Kd.V_mono (ok' := fun k_ => ((P1_ k_ ∨ P2_ k_) ∨ w.heap.size ≤ k_) ∧ k_ ≠ g1) ho1 (fun k_ hk_ => ⟨Or.elim hk_ (fun hs_ => hs_.1) (fun hn_ => (.inr (Nat.le_trans (below_size zH) hn_))), Or.elim hk_ (fun hs_ => hs_.2) (fun hn_ => (Kd.freshB (g := g1) (o := .cells #[.bool false, .string (⟨#[]⟩ : ByteArray), .string (⟨#[]⟩ : ByteArray)] 23 (0, 0)) (by (with_reducible repeat (first | refine blk_drewN ?_ _ | refine blk_drew ?_ | refine blk_alloc ?_ _)); exact B1.out) k_ hn_))⟩)) (below_size zH)); replace HO_1 := vB HO_1 hb; replace HO_2 := vB HO_2 hb; replace HO_7 := vB HO_7 hb; replace B1 := bB B1 hb; replace HB := sB hb; (try clear hb); (try clear ho0); (try clear ho1)) | (refine goesLA 34 Tryz.func72 #[.slice A2 l2.length c2, .slice P1 t1.length d1] ?_; (with_reducible refine (R1divide.calls kj7 (fun k_ => (((P1_ k_ ∨ P2_ k_) ∨ w.heap.size ≤ k_) ∧ k_ ≠ g1)) _ _ l2 _ _ t1 t4 t5 _ ?side1 ?side2 ?side3 A5.out).mono ?_); (case side1 => exact HO_2.out); (case side2 => exact sC (Kd.V_reads' HO_7.out).2.2); (case side3 => exact (Kd.V_reads' HO_7.out).2.1); rintro e w4 ⟨v7, v8, rfl, ho0, ho1, hb⟩; refine ⟨_, rfl, ?_⟩; have O6 := Aside0.mk (Kd.V_lower (Kd.V_mono (ok' := fun k_ => ((P1_ k_ ∨ P2_ k_) ∨ w.heap.size ≤ k_) ∧ k_ ≠ g1) ho0 (fun k_ hk_ => ⟨Or.elim hk_ (fun hs_ => hs_.1) (fun hn_ => (.inr (Nat.le_trans (below_size zH) hn_))), Or.elim hk_ (fun hs_ => hs_.2) (fun hn_ => (Kd.freshB (g := g1) (o := .cells #[.bool false, .string (⟨#[]⟩ : ByteArray), .string (⟨#[]⟩ : ByteArray)] 23 (0, 0)) (by (with_reducible repeat (first | refine blk_drewN ?_ _ | refine blk_drew ?_ | refine blk_alloc ?_ _)); exact B1.out) k_ hn_))⟩)) (below_size zH)); have O7 := Aside0.mk (Kd.V_lower (Kd.V_mono (ok' := fun k_ => ((P1_ k_ ∨ P2_ k_) ∨ w.heap.size ≤ k_) ∧ k_ ≠ g1) ho1 (fun k_ hk_ => ⟨Or.elim hk_ (fun hs_ => hs_.1) (fun hn_ => (.inr (Nat.le_trans (below_size zH) hn_))), Or.elim hk_ (fun hs_ => hs_.2) (fun hn_ => (Kd.freshB (g := g1) (o := .cells #[.bool false, .string (⟨#[]⟩ : ByteArray), .string (⟨#[]⟩ : ByteArray)] 23 (0, 0)) (by (with_reducible repeat (first | refine blk_drewN ?_ _ | refine blk_drew ?_ | refine blk_alloc ?_ _)); exact B1.out) k_ hn_))⟩)) (below_size zH)); replace HO_1 := vB HO_1 hb; replace HO_2 := vB HO_2 hb; replace HO_7 := vB HO_7 hb; replace O4 := vB O4 hb; replace O5 := vB O5 hb; replace B1 := bB B1 hb; replace HB := sB hb; (try clear hb); (try clear ho0); (try clear ho1)))
      go_meet
      case rel => exact ⟨_, (t2), (t4), H', ⟨by have := HJ7.out; first | omega | exact Nat.le_refl _⟩, ⟨zV⟩, ⟨zV⟩, ⟨bC B1⟩, ⟨zH⟩⟩
     ·replace c7 := Bool.eq_false_iff.mpr c7
      subst c7
      rw [if_neg (show ¬ (false = true) by decide)] at H
      have H' := Aside0.mk H
      clear H
      go_wp2
      go_meet
      case rel => exact ⟨_, (l1), (l2), H', ⟨by have := HJ7.out; first | omega | exact Nat.le_refl _⟩, ⟨zV⟩, ⟨zV⟩, ⟨bC B1⟩, ⟨zH⟩⟩
    case rest =>
     clear HC15
     (try clear qi6); (try clear c5); (try clear c4); (try clear c4b0); (try clear c4b1); (try clear c6); (try clear c6b0); (try clear c6b1); (try clear c7); (try clear cz1); (try clear cz2); (try clear cz3); (try clear fz1); (try clear fz2); (try clear fz3); (try clear hx1); (try clear p2); (try clear p3); (try clear p1); (try clear q2); (try clear q1)
     obtain ⟨kq, x2, x3, HA, HJ14, HO_1, HO_2, B1, HB⟩ := hcut
     cases kq with
     | zero => exact absurd HA.out (by simp [R1reduced.j1])
     | succ kj14 =>
      have H := HA.out
      clear HA
      simp only [R1reduced.j1] at H
      replace ⟨t2, A4, H⟩ := bS H
      by_cases c8 : (x3.length : Int) > 1
      ·rw [if_pos c8] at H
       have c8b0 := decide_eq_true c8
       have c8b1 : decide (1 < x3.length) = true := decide_eq_true (by omega)
       clear c8
       replace ⟨t3, A5, H⟩ := bS H
       simp only [Option.some.injEq, Prod.mk.injEq] at H
       obtain ⟨rfl, rfl, rfl⟩ := H
       obtain ⟨P1, d1, u1⟩ := Kd.V_slice HO_1.out
       subst u1
       go_wp2_with (first | (refine gB 39 Tryz.func73 (R1text.calls kj14 _ _ x2 t2 _ ?side1 ?side2 A4.out) fun w3 hb HB => ?_; (case side1 => exact sC (Kd.V_reads' HO_1.out).2.2); (case side2 => exact (Kd.V_reads' HO_1.out).2.1); replace HO_1 := vB HO_1 hb; replace HO_2 := vB HO_2 hb; replace B1 := bB B1 hb; clear hb) | (refine bxZ w 8 23 fun g2 w4 B2 G2 hg hb _ => ?_; obtain ⟨N1, N2⟩ := nP B1 hg; replace HO_1 := Aside0.mk (Kd.V_below (Kd.V_elderB zq57 g2 (Nat.le_of_eq hg.symm)) hb); replace HO_2 := Aside0.mk (Kd.V_below (Kd.V_elderB zq58 g2 (Nat.le_of_eq hg.symm)) hb); replace B1 := bB B1 hb; replace HB := sB hb; clear hb hg; have m1 := N2; have n1 := N1; obtain ⟨_, _, _, _, _, _⟩ := xB3 B2; obtain ⟨P2, d2, u2⟩ := Kd.V_slice HO_2.out; subst u2) | (refine gB 51 Tryz.func73 (R1text.calls kj14 _ _ x3 t3 _ ?side1 ?side2 A5.out) fun w5 hb _ => ?_; (case side1 => refine (Kd.V_reads' (e := 80) (base := w.heap.size) (ok := fun k_ => ((((P1_ k_ ∨ P2_ k_) ∨ w.heap.size ≤ k_) ∧ k_ ≠ g1) ∧ k_ ≠ g2)) (n := x3.length) (c := d2) ?_).2.2; exact zq36); (case side2 => exact (Kd.V_reads' HO_2.out).2.1); replace HO_1 := Aside0.mk (Kd.V_below zq62 hb); replace HO_2 := Aside0.mk (Kd.V_below zq36 hb); replace B1 := bV B1 hb; replace B2 := bV B2 hb; replace HB := sB hb; (try clear hb); obtain ⟨_, _, _, _, _, _⟩ := xB3 B2; obtain ⟨_, _, _, _, _, _⟩ := xB3 B1))
       refine pR 23 #[.bool a0, .string t2, .string t3] B1 Tryz.underlying23 ?_
       exact ⟨zE, zH⟩
      ·rw [if_neg c8] at H
       have c8b0 := decide_eq_false c8
       have c8b1 : decide (1 < x3.length) = false := decide_eq_false (by omega)
       clear c8
       replace H := of_ite H
       obtain ⟨c9, H⟩ := H
       have c9b0 := decide_eq_true c9
       have c9b1 : decide (0 < x3.length) = true := decide_eq_true (by omega)
       clear c9
       replace H := iL H
       rcases H with ⟨c10b0, H⟩ | ⟨c10b0, H⟩
       ·replace ⟨t3, A5, H⟩ := bS H
        simp only [Option.some.injEq, Prod.mk.injEq] at H
        obtain ⟨rfl, rfl, rfl⟩ := H
        obtain ⟨P1, d1, u1⟩ := Kd.V_slice HO_1.out
        subst u1
        go_wp2_with (first | (refine gB 39 Tryz.func73 (R1text.calls kj14 _ _ x2 t2 _ ?side1 ?side2 A4.out) fun w3 hb HB => ?_; (case side1 => exact sC (Kd.V_reads' HO_1.out).2.2); (case side2 => exact (Kd.V_reads' HO_1.out).2.1); replace HO_1 := vB HO_1 hb; replace HO_2 := vB HO_2 hb; replace B1 := bB B1 hb; clear hb) | (refine bxZ w 8 23 fun g2 w4 B2 G2 hg hb _ => ?_; obtain ⟨N1, N2⟩ := nP B1 hg; replace HO_1 := Aside0.mk (Kd.V_below (Kd.V_elderB zq57 g2 (Nat.le_of_eq hg.symm)) hb); replace HO_2 := Aside0.mk (Kd.V_below (Kd.V_elderB zq58 g2 (Nat.le_of_eq hg.symm)) hb); replace B1 := bB B1 hb; replace HB := sB hb; clear hb hg; have m1 := N2; have n1 := N1; obtain ⟨_, _, _, _, _, _⟩ := xB3 B2; obtain ⟨P2, d2, u2⟩ := Kd.V_slice HO_2.out; subst u2; have p4 : 0 ≤ (0 : Int) := (by omega); have q3 : 0 < (x3.length : Int) := of_decide_eq_true zq0; obtain ⟨ad1, e1, hx2⟩ := Kd.at_int (Kd.V_reads' HO_2.out).2.2 0 p4 q3; cases e1; have qi644 : (0 < x3.length) = True := eq_true (by omega); (try rw [show ((0 : Int)).toNat = 0 from rfl] at hx2); (try rw [Addr.add_zero'] at hx2); have hn644_0 : ad1.block ≠ g2 := Kd.foot_ne (Kd.C_foot_ownV HO_2.out (fun _ hk => hk.2)) (by omega) (by decide); have hn644_1 : ad1.block ≠ g2 := Kd.foot_ne (Kd.C_foot_ownV HO_2.out (fun _ hk => hk.2)) (by omega) (by decide); have hn644_2 : ad1.block ≠ g2 := Kd.foot_ne (Kd.C_foot_ownV HO_2.out (fun _ hk => hk.2)) (by omega) (by decide); replace hx2 := (cell_far (p := ⟨g2, 0, none⟩) (by first | (rw [add_block]; exact hn644_0) | (show (Addr.add _ _).block ≠ _; rw [add_block]; exact hn644_0) | exact hn644_0) (.bool a0)).trans hx2; replace hx2 := (cell_far (p := ⟨g2, 1, none⟩) (by first | (rw [add_block]; exact hn644_1) | (show (Addr.add _ _).block ≠ _; rw [add_block]; exact hn644_1) | exact hn644_1) (.string t2)).trans hx2; replace hx2 := (cell_far (p := ⟨g2, 2, none⟩) (by first | (rw [add_block]; exact hn644_2) | (show (Addr.add _ _).block ≠ _; rw [add_block]; exact hn644_2) | exact hn644_2) (.string (⟨#[]⟩ : ByteArray))).trans hx2; clear hn644_0; clear hn644_1; clear hn644_2; replace p4 := eq_true p4; replace q3 := eq_true q3) | (refine gB 51 Tryz.func73 (R1text.calls kj14 _ _ x3 t3 _ ?side1 ?side2 A5.out) fun w5 hb _ => ?_; (case side1 => refine (Kd.V_reads' (e := 80) (base := w.heap.size) (ok := fun k_ => ((((P1_ k_ ∨ P2_ k_) ∨ w.heap.size ≤ k_) ∧ k_ ≠ g1) ∧ k_ ≠ g2)) (n := x3.length) (c := d2) ?_).2.2; exact zq36); (case side2 => exact (Kd.V_reads' HO_2.out).2.1); replace HO_1 := Aside0.mk (Kd.V_below zq62 hb); replace HO_2 := Aside0.mk (Kd.V_below zq36 hb); replace B1 := bV B1 hb; replace B2 := bV B2 hb; replace HB := sB hb; (try clear hb); obtain ⟨_, _, _, _, _, _⟩ := xB3 B2; obtain ⟨_, _, _, _, _, _⟩ := xB3 B1))
        refine pR 23 #[.bool a0, .string t2, .string t3] B1 Tryz.underlying23 ?_
        exact ⟨zE, zH⟩
       ·simp only [Option.some.injEq, Prod.mk.injEq] at H
        obtain ⟨rfl, rfl, rfl⟩ := H
        obtain ⟨P1, d1, u1⟩ := Kd.V_slice HO_1.out
        subst u1
        go_wp2_with (first | (refine gB 39 Tryz.func73 (R1text.calls kj14 _ _ x2 t2 _ ?side1 ?side2 A4.out) fun w3 hb HB => ?_; (case side1 => exact sC (Kd.V_reads' HO_1.out).2.2); (case side2 => exact (Kd.V_reads' HO_1.out).2.1); replace HO_1 := vB HO_1 hb; replace HO_2 := vB HO_2 hb; replace B1 := bB B1 hb; clear hb) | (refine bxZ w 8 23 fun g2 w4 B2 G2 hg hb _ => ?_; obtain ⟨N1, N2⟩ := nP B1 hg; replace HO_1 := Aside0.mk (Kd.V_below (Kd.V_elderB zq57 g2 (Nat.le_of_eq hg.symm)) hb); replace HO_2 := Aside0.mk (Kd.V_below (Kd.V_elderB zq58 g2 (Nat.le_of_eq hg.symm)) hb); replace B1 := bB B1 hb; replace HB := sB hb; clear hb hg; have m1 := N2; have n1 := N1; obtain ⟨_, _, _, _, _, _⟩ := xB3 B2; obtain ⟨P2, d2, u2⟩ := Kd.V_slice HO_2.out; subst u2; have p4 : 0 ≤ (0 : Int) := (by omega); have q3 : 0 < (x3.length : Int) := of_decide_eq_true zq0; obtain ⟨ad1, e1, hx2⟩ := Kd.at_int (Kd.V_reads' HO_2.out).2.2 0 p4 q3; cases e1; have qi644 : (0 < x3.length) = True := eq_true (by omega); (try rw [show ((0 : Int)).toNat = 0 from rfl] at hx2); (try rw [Addr.add_zero'] at hx2); have hn644_0 : ad1.block ≠ g2 := Kd.foot_ne (Kd.C_foot_ownV HO_2.out (fun _ hk => hk.2)) (by omega) (by decide); have hn644_1 : ad1.block ≠ g2 := Kd.foot_ne (Kd.C_foot_ownV HO_2.out (fun _ hk => hk.2)) (by omega) (by decide); have hn644_2 : ad1.block ≠ g2 := Kd.foot_ne (Kd.C_foot_ownV HO_2.out (fun _ hk => hk.2)) (by omega) (by decide); replace hx2 := (cell_far (p := ⟨g2, 0, none⟩) (by first | (rw [add_block]; exact hn644_0) | (show (Addr.add _ _).block ≠ _; rw [add_block]; exact hn644_0) | exact hn644_0) (.bool a0)).trans hx2; replace hx2 := (cell_far (p := ⟨g2, 1, none⟩) (by first | (rw [add_block]; exact hn644_1) | (show (Addr.add _ _).block ≠ _; rw [add_block]; exact hn644_1) | exact hn644_1) (.string t2)).trans hx2; replace hx2 := (cell_far (p := ⟨g2, 2, none⟩) (by first | (rw [add_block]; exact hn644_2) | (show (Addr.add _ _).block ≠ _; rw [add_block]; exact hn644_2) | exact hn644_2) (.string (⟨#[]⟩ : ByteArray))).trans hx2; clear hn644_0; clear hn644_1; clear hn644_2; replace p4 := eq_true p4; replace q3 := eq_true q3; obtain ⟨_, _, _, _, _, _⟩ := xB3 B1))
        refine pR 23 #[.bool a0, .string t2, .string (⟨#[]⟩ : ByteArray)] B1 Tryz.underlying23 ?_
        exact ⟨zE, zH⟩
def R1den.f (k : Nat) (a0_0 : Bool) (a0_1 a0_2 : ByteArray) : Option (List Int) := if a0_2.toList = ([] : List UInt8) then (some (([1] : List Int))) else ((R1limbs.f k a0_2).bind fun t621 => (some t621))
theorem R1den.calls (k : Nat) (a0_0 : Bool) (a0_1 a0_2 : ByteArray) (r : List Int) (w : World) (H : R1den.f k a0_0 a0_1 a0_2 = some r) :
 Calls Tryz.prog 44 #[.agg #[.bool a0_0, .string a0_1, .string a0_2]] w fun e w' => ∃ v0_ : Value, e = .returned (v0_) ∧ Kd.R (Kd.int .u32) 80 w' w.heap.size (fun _ => True) v0_ r ∧ Below w.heap.size w w' := by
 have hu1 := Tryz.underlying23
 have HB := Aside0.mk (Below.refl w.heap.size w)
 unfold R1den.f at H
 replace H := iQ H
 rcases H with ⟨c1b0, c1b1, H⟩ | ⟨c1b0, c1b1, H⟩
 ·generalize yh1 : (([1] : List Int) : List Int) = y1 at H
  have Y1 := Aside0.mk yh1.symm; clear yh1
  obtain rfl := sI H
  go_enter Tryz.func44, Tryz.ntmps44
  go_wp2_with (first | (refine bxA w 1 #[.bool a0_0, .string a0_1, .string a0_2] 23 fun g1 w1 B1 G1 hg hb HB => ?_; clear hb hg; obtain ⟨_, _, _, _, _, _⟩ := xB3 B1) | ((with_reducible refine gate_dst (N := 6) rfl ?_); refine Kd.R_lit (Kd.int .u32) _ 80 ?hg (N := 6) ?hd (xs := ([1] : List Int)) (inner := [.int .u32 1]) (ok := fun _ => True) (okp := fun _ => True) ?hr ?hp (fun _ hk => hk) trivial (Below.refl _ _) (Nat.le_refl _) (by simp) ?_; (case hd => rfl); (case hg => rfl); (case hr => first | (go_simp; done) | (go_simp; rfl)); (case hp => exact (Reps.one (show Kd.M (Kd.int .u32) _ _ _ 1 [.int .u32 1] from rfl) (Reps.none _ _))); intro v1 w2 ho6 hb hg_ hnew_; clear hg_ hnew_; (first | rw [← Y1.out] at ho6 | (simp only [Int.reduceToNat] at ho6; rw [← Y1.out] at ho6)); have O1 := Aside0.mk (Kd.R_lower ho6 (below_size zH)); replace B1 := bB B1 hb; replace HB := sB hb; clear hb ho6))
  go_ret
  exact ⟨_, zE, zR, zH⟩
 ·replace ⟨t1, A1, H⟩ := bS H
  obtain rfl := sI H
  go_enter Tryz.func44, Tryz.ntmps44
  go_wp2_with (first | (refine bxA w 1 #[.bool a0_0, .string a0_1, .string a0_2] 23 fun g1 w1 B1 G1 hg hb HB => ?_; clear hb hg; obtain ⟨_, _, _, _, _, _⟩ := xB3 B1) | (refine gR 9 Tryz.func46 (R1limbs.calls _ _ _ _ A1.out) fun v1 w2 ho0 hb => ?_; have O1 := Aside0.mk (Kd.R_lower ho0 (below_size zH)); replace B1 := bB B1 hb; replace HB := sB hb; (try clear hb); (try clear ho0)))
  go_ret
  exact ⟨_, zE, zR, zH⟩
def R1Over.f (k : Nat) (a0_0 : Bool) (a0_1 a0_2 : ByteArray) (a1_0 : Bool) (a1_1 a1_2 : ByteArray) : Option (Bool × ByteArray × ByteArray) := if a0_1.toList = ([] : List UInt8) then (some (false, (⟨#[]⟩ : ByteArray), (⟨#[]⟩ : ByteArray))) else ((R1limbs.f k a0_1).bind fun t716 => ((R1den.f k a1_0 a1_1 a1_2).bind fun t719 => ((R1times.f k t716 t719).bind fun t722 => ((R1den.f k a0_0 a0_1 a0_2).bind fun t725 => ((R1limbs.f k a1_1).bind fun t728 => ((R1times.f k t725 t728).bind fun t731 => ((R1reduced.f k (a0_0 != a1_0) t722 t731).bind fun bt734 => (some (bt734.1, bt734.2.1, bt734.2.2)))))))))
def R1Over.T3 : Bool × List (List Nat × List Nat) := (true, [([], []), ([0], [0]), ([], []), ([2], [2]), ([1, 3], [1, 3]), ([], []), ([5], [5]), ([6], [6]), ([], []), ([8, 7], [8]), ([7, 9, 9], [7, 9]), ([], []), ([11, 10], [11]), ([], []), ([13], [13]), ([14, 12], [14]), ([12, 15, 15], [12, 15]), ([4, 10, 16, 16], [4, 10, 16]), ([17, 17, 0, 1, 2, 3, 4, 5, 6, 7, 8, 9, 10, 11, 12, 13, 14, 15, 16, 17], [17])])
def R1Over.B3 : List Nat := [0, 1, 0, 4, 15, 0, 32, 96, 0, 480, 992, 0, 4064, 0, 8192, 32736, 65504, 131071, 262143]
theorem R1Over.tab3 : rtab .any (opsOf Tryz.f24 3) = R1Over.T3 := by kernel_rfl
theorem R1Over.bits3 : waitsOk R1Over.T3.2 R1Over.B3 = true := by kernel_rfl
theorem R1Over.calls (k : Nat) (a0_0 : Bool) (a0_1 a0_2 : ByteArray) (a1_0 : Bool) (a1_1 a1_2 : ByteArray) (r1 : Bool) (r2 r3 : ByteArray) (w : World) (H : R1Over.f k a0_0 a0_1 a0_2 a1_0 a1_1 a1_2 = some (r1, r2, r3)) :
 Calls Tryz.prog 24 #[.agg #[.bool a0_0, .string a0_1, .string a0_2], .agg #[.bool a1_0, .string a1_1, .string a1_2]] w fun e w' => e = .returned (.agg #[.bool r1, .string r2, .string r3]) ∧ Below w.heap.size w w' := by
 have hu1 := Tryz.underlying23
 have HB := Aside0.mk (Below.refl w.heap.size w)
 unfold R1Over.f at H
 replace H := iQ H
 rcases H with ⟨c1b0, c1b1, H⟩ | ⟨c1b0, c1b1, H⟩
 ·simp only [Option.some.injEq, Prod.mk.injEq] at H
  obtain ⟨rfl, rfl, rfl⟩ := H
  go_enter Tryz.func24, Tryz.ntmps24
  go_wp2_with (first | (refine bxA w 2 #[.bool a0_0, .string a0_1, .string a0_2] 23 fun g1 w2 B1 G1 hg hb HB => ?_; clear hb hg) | (refine bxA w 3 #[.bool a1_0, .string a1_1, .string a1_2] 23 fun g2 w3 B2 G2 hg hb HB => ?_; obtain ⟨N1, N2⟩ := nP B1 hg; replace B1 := bB B1 hb; clear hb hg) | (refine bxZ w 4 23 fun g3 w4 B3 G3 hg hb HB => ?_; obtain ⟨N3, N4⟩ := nP B1 hg; obtain ⟨N5, N6⟩ := nP B2 hg; replace B1 := bB B1 hb; replace B2 := bB B2 hb; clear hb hg; have m1 := N1; have n1 := N2; have m2 := N3; have n2 := N4; obtain ⟨_, _, _, _, _, _⟩ := xB3 B1; have m3 := N6; have n3 := N5; obtain ⟨_, _, _, _, _, _⟩ := xB3 B3))
  refine pR 23 #[.bool false, .string (⟨#[]⟩ : ByteArray), .string (⟨#[]⟩ : ByteArray)] B3 Tryz.underlying23 ?_
  exact ⟨zE, zH⟩
 ·replace ⟨t1, A1, H⟩ := bS H
  replace ⟨t2, A2, H⟩ := bS H
  replace ⟨t3, A3, H⟩ := bS H
  replace ⟨t4, A4, H⟩ := bS H
  replace ⟨t5, A5, H⟩ := bS H
  replace ⟨t6, A6, H⟩ := bS H
  replace ⟨⟨t7, t8, t9⟩, A7, H⟩ := bS H
  (try dsimp only at H)
  simp only [Option.some.injEq, Prod.mk.injEq] at H
  obtain ⟨rfl, rfl, rfl⟩ := H
  go_enter Tryz.func24, Tryz.ntmps24
  try go_wp2_with (first | (refine bxA w 2 #[.bool a0_0, .string a0_1, .string a0_2] 23 fun g1 w2 B1 G1 hg hb HB => ?_; clear hb hg) | (refine bxA w 3 #[.bool a1_0, .string a1_1, .string a1_2] 23 fun g2 w3 B2 G2 hg hb HB => ?_; obtain ⟨N1, N2⟩ := nP B1 hg; replace B1 := bB B1 hb; clear hb hg) | (refine bxZ w 4 23 fun g3 w4 B3 G3 hg hb HB => ?_; obtain ⟨N3, N4⟩ := nP B1 hg; obtain ⟨N5, N6⟩ := nP B2 hg; replace B1 := bB B1 hb; replace B2 := bB B2 hb; clear hb hg; have m1 := N1; have n1 := N2; have m2 := N3; have n2 := N4; obtain ⟨_, _, _, _, _, _⟩ := xB3 B1))
  replace B1 := bD B1
  replace B2 := bD B2
  replace B3 := bD B3
  replace HB := hD HB
  refine startC2 19 [] B1 B2 (fun hHeld => ?_); refine with_tabW R1Over.tab3 R1Over.bits3 (fun HT_ HW_ => ?_)
  generalize w4.drew = w5 at B1 B2 B3 HB hHeld ⊢
  refine pA 0 1 ?_
  refine pA 2 5 ?_
  refine pA 5 37 ?_
  refine pA 13 8229 ?_
  refine tA 1 8231 hHeld ?_
  refine tA 3 8239 hHeld ?_
  refine pA 4 8255 ?_
  refine tA 6 8319 hHeld ?_
  refine tA 8 8575 hHeld ?_
  refine tA 11 10623 hHeld ?_
  refine tA 14 27007 hHeld ?_
  refine oA 7 27135 fun K hK => ?_
  refine goes_ Tryz.func46 (by kernel_rfl) rfl #[.string a0_1] (by rfl) rfl rfl zq5 ?_
  with_reducible refine (R1limbs.calls (H := A1.out) ..).mono ?_
  rintro e w6 ⟨v1, rfl, ho0, hb⟩
  refine ⟨_, rfl, ?_⟩
  have O1 := Aside0.mk (Kd.R_lower ho0 (below_size zH))
  replace B1 := bB B1 hb
  replace B2 := bB B2 hb
  replace B3 := bB B3 hb
  replace HB := sB hb
  (try clear hb); (try clear ho0)
  refine hK.out _ _ zK (fun hHeld => ?_)
  clear hK K
  refine normA (N := 16) ?_
  refine oA 9 27647 fun K hK => ?_
  refine goes_ Tryz.func44 (by kernel_rfl) rfl #[.agg #[.bool a1_0, .string a1_1, .string a1_2]] (by rfl) rfl rfl zq5 ?_
  with_reducible refine (R1den.calls (H := A2.out) ..).mono ?_
  rintro e w7 ⟨v2, rfl, ho0, hb⟩
  refine ⟨_, rfl, ?_⟩
  have O2 := Aside0.mk (Kd.R_lower (Kd.R_new' ho0 (Kd.R_lt zq2)) (below_size zH))
  replace O1 := Aside0.mk (Kd.R_elder' zq2 (Kd.R_base ho0) hb)
  replace B1 := bB B1 hb
  replace B2 := bB B2 hb
  replace B3 := bB B3 hb
  replace HB := sB hb
  (try clear hb); (try clear ho0)
  obtain ⟨P1, d1, u1⟩ := Kd.R_slice O1.out
  (first | subst u1 | (injection u1 with f1_ f2_ f3_; have f4_ := f1_.symm; have f5_ := f3_.symm; clear f1_ f2_ f3_; subst f4_; subst f5_))
  obtain ⟨P2, d2, u2⟩ := Kd.R_slice O2.out
  (first | subst u2 | (injection u2 with f1_ f2_ f3_; have f4_ := f1_.symm; have f5_ := f3_.symm; clear f1_ f2_ f3_; subst f4_; subst f5_))
  refine hK.out _ _ zK (fun hHeld => ?_)
  clear hK K
  refine normA (N := 18) ?_
  refine oA 10 28671 fun K hK => ?_
  refine goes_ Tryz.func45 (by kernel_rfl) rfl #[.slice P1 t1.length d1, .slice P2 t2.length d2] (by rfl) rfl rfl zq5 ?_
  with_reducible refine (R1times.calls k _ _ t1 _ _ t2 t3 _ ?side1 ?side2 ?side3 ?side4 A3.out).mono ?_
  (case side1 => exact sC (Kd.R_reads' O1.out).2.2)
  (case side2 => exact (Kd.R_reads' O1.out).2.1)
  (case side3 => exact sC (Kd.R_reads' O2.out).2.2)
  (case side4 => exact (Kd.R_reads' O2.out).2.1)
  rintro e w8 ⟨v3, rfl, ho0, hb⟩
  refine ⟨_, rfl, ?_⟩
  have O3 := Aside0.mk (Kd.V_lower (Kd.V_mono (ok' := fun k_ => some k_ ≠ (.slice P1 t1.length d1 : Value).ownBlock ∧ some k_ ≠ (.slice P2 t2.length d2 : Value).ownBlock ∧ k_ ≠ g1 ∧ k_ ≠ g2 ∧ k_ ≠ g3) ho0 (fun k_ hk_ => ⟨(Kd.fresh' (Kd.R_lt zq2) k_ hk_), (Kd.fresh' (Kd.R_lt zq3) k_ hk_), (Kd.freshB (g := g1) (o := .cells #[.bool a0_0, .string a0_1, .string a0_2] 23 (0, 0)) (by (with_reducible repeat (first | refine blk_drewN ?_ _ | refine blk_drew ?_ | refine blk_alloc ?_ _)); exact B1.out) k_ hk_), (Kd.freshB (g := g2) (o := .cells #[.bool a1_0, .string a1_1, .string a1_2] 23 (0, 0)) (by (with_reducible repeat (first | refine blk_drewN ?_ _ | refine blk_drew ?_ | refine blk_alloc ?_ _)); exact B2.out) k_ hk_), (Kd.freshB (g := g3) (o := .cells #[.bool false, .string (⟨#[]⟩ : ByteArray), .string (⟨#[]⟩ : ByteArray)] 23 (0, 0)) (by (with_reducible repeat (first | refine blk_drewN ?_ _ | refine blk_drew ?_ | refine blk_alloc ?_ _)); exact B3.out) k_ hk_)⟩)) (below_size zH))
  replace O1 := rB O1 hb
  replace O2 := rB O2 hb
  replace B1 := bB B1 hb
  replace B2 := bB B2 hb
  replace B3 := bB B3 hb
  replace HB := sB hb
  (try clear hb); (try clear ho0)
  refine hK.out _ _ zK (fun hHeld => ?_)
  clear hK K
  refine normA (N := 19) ?_
  refine oA 12 32767 fun K hK => ?_
  refine goes_ Tryz.func44 (by kernel_rfl) rfl #[.agg #[.bool a0_0, .string a0_1, .string a0_2]] (by rfl) rfl rfl zq5 ?_
  with_reducible refine (R1den.calls (H := A4.out) ..).mono ?_
  rintro e w9 ⟨v4, rfl, ho0, hb⟩
  refine ⟨_, rfl, ?_⟩
  have O4 := Aside0.mk (Kd.R_lower (Kd.R_new' (Kd.R_new' ho0 (Kd.R_lt zq2)) (Kd.R_lt zq3)) (below_size zH))
  replace O1 := Aside0.mk (Kd.R_elder' zq2 (Kd.R_base ho0) hb)
  replace O2 := Aside0.mk (Kd.R_elder' zq3 (Kd.R_base ho0) hb)
  replace O3 := Aside0.mk (Kd.V_elder' zq37 (Kd.R_base ho0) hb)
  replace B1 := bB B1 hb
  replace B2 := bB B2 hb
  replace B3 := bB B3 hb
  replace HB := sB hb
  (try clear hb); (try clear ho0)
  refine hK.out _ _ zK (fun hHeld => ?_)
  clear hK K
  refine normA (N := 21) ?_
  refine oA 15 65535 fun K hK => ?_
  refine goes_ Tryz.func46 (by kernel_rfl) rfl #[.string a1_1] (by rfl) rfl rfl zq5 ?_
  with_reducible refine (R1limbs.calls (H := A5.out) ..).mono ?_
  rintro e w10 ⟨v5, rfl, ho0, hb⟩
  refine ⟨_, rfl, ?_⟩
  have O5 := Aside0.mk (Kd.R_lower (Kd.R_new' (Kd.R_new' (Kd.R_new' ho0 (Kd.R_lt zq2)) (Kd.R_lt zq3)) (Kd.R_lt zq26)) (below_size zH))
  replace O1 := Aside0.mk (Kd.R_elder' zq2 (Kd.R_base ho0) hb)
  replace O2 := Aside0.mk (Kd.R_elder' zq3 (Kd.R_base ho0) hb)
  replace O3 := Aside0.mk (Kd.V_elder' zq37 (Kd.R_base ho0) hb)
  replace O4 := Aside0.mk (Kd.R_elder' zq26 (Kd.R_base ho0) hb)
  replace B1 := bB B1 hb
  replace B2 := bB B2 hb
  replace B3 := bB B3 hb
  replace HB := sB hb
  (try clear hb); (try clear ho0)
  obtain ⟨P3, d3, u3⟩ := Kd.R_slice O4.out
  (first | subst u3 | (injection u3 with f1_ f2_ f3_; have f4_ := f1_.symm; have f5_ := f3_.symm; clear f1_ f2_ f3_; subst f4_; subst f5_))
  obtain ⟨P4, d4, u4⟩ := Kd.R_slice O5.out
  (first | subst u4 | (injection u4 with f1_ f2_ f3_; have f4_ := f1_.symm; have f5_ := f3_.symm; clear f1_ f2_ f3_; subst f4_; subst f5_))
  refine hK.out _ _ zK (fun hHeld => ?_)
  clear hK K
  refine normA (N := 24) ?_
  refine oA 16 131071 fun K hK => ?_
  refine goes_ Tryz.func45 (by kernel_rfl) rfl #[.slice P3 t4.length d3, .slice P4 t5.length d4] (by rfl) rfl rfl zq5 ?_
  with_reducible refine (R1times.calls k _ _ t4 _ _ t5 t6 _ ?side1 ?side2 ?side3 ?side4 A6.out).mono ?_
  (case side1 => exact sC (Kd.R_reads' O4.out).2.2)
  (case side2 => exact (Kd.R_reads' O4.out).2.1)
  (case side3 => exact sC (Kd.R_reads' O5.out).2.2)
  (case side4 => exact (Kd.R_reads' O5.out).2.1)
  rintro e w11 ⟨v6, rfl, ho0, hb⟩
  refine ⟨_, rfl, ?_⟩
  have O6 := Aside0.mk (Kd.V_lower (Kd.V_mono (ok' := fun k_ => some k_ ≠ (.slice P1 t1.length d1 : Value).ownBlock ∧ some k_ ≠ (.slice P2 t2.length d2 : Value).ownBlock ∧ some k_ ≠ (.slice P3 t4.length d3 : Value).ownBlock ∧ some k_ ≠ (.slice P4 t5.length d4 : Value).ownBlock ∧ k_ ≠ g1 ∧ k_ ≠ g2 ∧ k_ ≠ g3) ho0 (fun k_ hk_ => ⟨(Kd.fresh' (Kd.R_lt zq2) k_ hk_), (Kd.fresh' (Kd.R_lt zq3) k_ hk_), (Kd.fresh' (Kd.R_lt zq26) k_ hk_), (Kd.fresh' (Kd.R_lt zq14) k_ hk_), (Kd.freshB (g := g1) (o := .cells #[.bool a0_0, .string a0_1, .string a0_2] 23 (0, 0)) (by (with_reducible repeat (first | refine blk_drewN ?_ _ | refine blk_drew ?_ | refine blk_alloc ?_ _)); exact B1.out) k_ hk_), (Kd.freshB (g := g2) (o := .cells #[.bool a1_0, .string a1_1, .string a1_2] 23 (0, 0)) (by (with_reducible repeat (first | refine blk_drewN ?_ _ | refine blk_drew ?_ | refine blk_alloc ?_ _)); exact B2.out) k_ hk_), (Kd.freshB (g := g3) (o := .cells #[.bool false, .string (⟨#[]⟩ : ByteArray), .string (⟨#[]⟩ : ByteArray)] 23 (0, 0)) (by (with_reducible repeat (first | refine blk_drewN ?_ _ | refine blk_drew ?_ | refine blk_alloc ?_ _)); exact B3.out) k_ hk_)⟩)) (below_size zH))
  replace O1 := rB O1 hb
  replace O2 := rB O2 hb
  replace O3 := vB O3 hb
  replace O4 := rB O4 hb
  replace O5 := rB O5 hb
  replace B1 := bB B1 hb
  replace B2 := bB B2 hb
  replace B3 := bB B3 hb
  replace HB := sB hb
  (try clear hb); (try clear ho0)
  obtain ⟨P5, d5, u5⟩ := Kd.V_slice O3.out
  (first | subst u5 | (injection u5 with f1_ f2_ f3_; have f4_ := f1_.symm; have f5_ := f3_.symm; clear f1_ f2_ f3_; subst f4_; subst f5_))
  obtain ⟨P6, d6, u6⟩ := Kd.V_slice O6.out
  (first | subst u6 | (injection u6 with f1_ f2_ f3_; have f4_ := f1_.symm; have f5_ := f3_.symm; clear f1_ f2_ f3_; subst f4_; subst f5_))
  refine hK.out _ _ zK (fun hHeld => ?_)
  clear hK K
  refine normA (N := 25) ?_
  refine oA 17 262143 fun K hK => ?_
  refine goes_ Tryz.func47 (by kernel_rfl) rfl #[.bool (a0_0 != a1_0), .slice P5 t3.length d5, .slice P6 t6.length d6] (by rfl) rfl rfl zq5 ?_
  with_reducible refine (R1reduced.calls (H := A7.out) (P1_ := (fun k_ => (((some k_ ≠ (.slice P1 t1.length d1 : Value).ownBlock ∧ (some k_ ≠ (.slice P2 t2.length d2 : Value).ownBlock ∧ (k_ ≠ g1 ∧ (k_ ≠ g2 ∧ k_ ≠ g3)))) ∧ some k_ ≠ (.slice P3 t4.length d3 : Value).ownBlock) ∧ some k_ ≠ (.slice P4 t5.length d4 : Value).ownBlock))) (P2_ := (fun k_ => (some k_ ≠ (.slice P1 t1.length d1 : Value).ownBlock ∧ (some k_ ≠ (.slice P2 t2.length d2 : Value).ownBlock ∧ (some k_ ≠ (.slice P3 t4.length d3 : Value).ownBlock ∧ (some k_ ≠ (.slice P4 t5.length d4 : Value).ownBlock ∧ (k_ ≠ g1 ∧ (k_ ≠ g2 ∧ k_ ≠ g3)))))))) (hs1 := ?side1) (hs2 := ?side2) ..).mono ?_
  (case side1 => exact O3.out)
  (case side2 => exact O6.out)
  rintro e w12 ⟨rfl, hb⟩
  refine ⟨_, rfl, ?_⟩
  replace O1 := rB O1 hb
  replace O2 := rB O2 hb
  replace O3 := vB O3 hb
  replace O4 := rB O4 hb
  replace O5 := rB O5 hb
  replace O6 := vB O6 hb
  replace B1 := bB B1 hb
  replace B2 := bB B2 hb
  replace B3 := bB B3 hb
  replace HB := sB hb
  (try clear hb)
  refine hK.out _ _ zK (fun hHeld => ?_)
  clear hK K
  refine normA (N := 26) ?_
  refine one_ (i := 18) (N := none) (lB 19 524287) rfl rfl (one_of HT_.out (by kernel_rfl)) (by decide) (fun K hK => ?_)
  have hs39 := cB B3 0 (.bool false)
  have hfs39 := fB B3 0
  have hs40 := cB B3 1 (.string (⟨#[]⟩ : ByteArray))
  have hfs40 := fB B3 1
  have hs41 := cB B3 2 (.string (⟨#[]⟩ : ByteArray))
  have hfs41 := fB B3 2
  refine skip_ (w1 := ?_) (by rfl) rfl ?_ ?_
  rotate_left
  ·go_simp
   rfl
  refine hK.out _ _ zC (fun hHeld => ?_)
  clear hK K
  refine done_ (done_of HT_.out (by kernel_rfl)) ?_
  try go_wp2
  refine pR 23 #[.bool t7, .string t8, .string t9] B3 Tryz.underlying23 ?_
  exact ⟨zE, zH⟩
def R1Int.f (k : Nat) (a0 : Int) : Option (Bool × ByteArray × ByteArray) := (R1size.f a0).bind fun t738 => ((R1FromUint.f k t738).bind fun t739 => (some (decide (a0 < 0), t739, (⟨#[]⟩ : ByteArray))))
theorem R1Int.calls (k : Nat) (a0 : Int) (r1 : Bool) (r2 r3 : ByteArray) (w : World) (H : R1Int.f k a0 = some (r1, r2, r3)) :
 Calls Tryz.prog 27 #[.int .i64 a0] w fun e w' => e = .returned (.agg #[.bool r1, .string r2, .string r3]) ∧ Below w.heap.size w w' := by
 have hu1 := Tryz.underlying23
 have HB := Aside0.mk (Below.refl w.heap.size w)
 unfold R1Int.f at H
 replace ⟨t1, A1, H⟩ := bS H
 replace ⟨t2, A2, H⟩ := bS H
 simp only [Option.some.injEq, Prod.mk.injEq] at H
 obtain ⟨rfl, rfl, rfl⟩ := H
 go_enter Tryz.func27, Tryz.ntmps27
 go_wp2_with (first | (refine bxZ w 2 23 fun g1 w1 B1 G1 hg hb HB => ?_; clear hb hg) | (refine gF 6 Tryz.func53 (R1size.calls a0 t1 _ A1.out) fun w1 hb HB => ?_; replace B1 := bB B1 hb; clear hb) | (refine gB 7 Tryz.func52 (R1FromUint.calls _ _ _ _ A2.out) fun w2 hb HB => ?_; replace B1 := bB B1 hb; clear hb; obtain ⟨_, _, _, _, _, _⟩ := xB3 B1))
 refine pR 23 #[.bool (decide (a0 < 0)), .string t2, .string (⟨#[]⟩ : ByteArray)] B1 Tryz.underlying23 ?_
 exact ⟨zE, zH⟩
def R1Make.f (k : Nat) (a0 : Bool) (a1 a2 : ByteArray) : Option (Bool × ByteArray × ByteArray × Bool) := (R1limbs.f k a2).bind fun t741 => (if (t741.length : Int) = 0 then (some (false, (⟨#[]⟩ : ByteArray), (⟨#[]⟩ : ByteArray), false)) else ((R1limbs.f k a1).bind fun t744 => ((R1reduced.f k a0 t744 t741).bind fun bt747 => (some (bt747.1, bt747.2.1, bt747.2.2, true)))))
theorem R1Make.calls (k : Nat) (a0 : Bool) (a1 a2 : ByteArray) (r1 : Bool) (r2 r3 : ByteArray) (r4 : Bool) (w : World) (H : R1Make.f k a0 a1 a2 = some (r1, r2, r3, r4)) :
 Calls Tryz.prog 55 #[.bool a0, .string a1, .string a2] w fun e w' => e = .returned (.tuple #[.agg #[.bool r1, .string r2, .string r3], .bool r4]) ∧ Below w.heap.size w w' := by
 have hu1 := Tryz.underlying23
 have HB := Aside0.mk (Below.refl w.heap.size w)
 unfold R1Make.f at H
 replace ⟨t1, A1, H⟩ := bS H
 by_cases c1 : (t1.length : Int) = 0
 ·rw [if_pos c1] at H
  have c1b0 := beq_iff_eq.mpr c1
  have c1b1 : ((t1.length : Int) != 0) = false := bne_eq_false_iff_eq.mpr c1
  clear c1
  simp only [Option.some.injEq, Prod.mk.injEq] at H
  obtain ⟨rfl, rfl, rfl, rfl⟩ := H
  go_enter Tryz.func55, Tryz.ntmps55
  go_wp2_with (first | (refine bxZ w 6 23 fun g1 w1 B1 G1 hg hb HB => ?_; clear hb hg) | (refine gR 10 Tryz.func46 (R1limbs.calls _ _ _ _ A1.out) fun v1 w2 ho0 hb => ?_; have O1 := Aside0.mk (Kd.R_lower ho0 (below_size zH)); replace B1 := bB B1 hb; replace HB := sB hb; (try clear hb); (try clear ho0); obtain ⟨P1, d1, u1⟩ := Kd.R_slice O1.out; subst u1; obtain ⟨_, _, _, _, _, _⟩ := xB3 B1))
  refine pRt 23 #[.bool false, .string (⟨#[]⟩ : ByteArray), .string (⟨#[]⟩ : ByteArray)] B1 Tryz.underlying23 ?_
  exact ⟨zE, zH⟩
 ·rw [if_neg c1] at H
  have c1b0 := beq_eq_false_iff_ne.mpr c1
  have c1b1 := bne_iff_ne.mpr c1
  have c1b2 : ¬ (t1 = []) := fun h_ => c1 (by rw [h_]; rfl)
  replace ⟨t2, A2, H⟩ := bS H
  replace ⟨⟨t3, t4, t5⟩, A3, H⟩ := bS H
  (try dsimp only at H)
  simp only [Option.some.injEq, Prod.mk.injEq] at H
  obtain ⟨rfl, rfl, rfl, rfl⟩ := H
  go_enter Tryz.func55, Tryz.ntmps55
  go_wp2_with (first | (refine bxZ w 6 23 fun g1 w1 B1 G1 hg hb HB => ?_; clear hb hg) | (refine gR 10 Tryz.func46 (R1limbs.calls _ _ _ _ A1.out) fun v1 w2 ho0 hb => ?_; have O1 := Aside0.mk (Kd.R_lower ho0 (below_size zH)); replace B1 := bB B1 hb; replace HB := sB hb; (try clear hb); (try clear ho0); obtain ⟨P1, d1, u1⟩ := Kd.R_slice O1.out; subst u1) | (refine gR 17 Tryz.func46 (R1limbs.calls _ _ _ _ A2.out) fun v2 w3 ho0 hb => ?_; have O2 := Aside0.mk (Kd.R_lower (Kd.R_new' ho0 (Kd.R_lt zq2)) (below_size zH)); replace O1 := Aside0.mk (Kd.R_elder' zq2 (Kd.R_base ho0) hb); replace B1 := bB B1 hb; replace HB := sB hb; (try clear hb); (try clear ho0); obtain ⟨P2, d2, u2⟩ := Kd.R_slice O2.out; subst u2) | (refine gB 19 Tryz.func47 (R1reduced.calls k a0 (fun k_ => some k_ = (.slice P2 t2.length d2 : Value).ownBlock) _ _ t2 (fun k_ => some k_ = (.slice P1 t1.length d1 : Value).ownBlock) _ _ t1 t3 t4 t5 _ ?side1 ?side2 A3.out) fun w4 hb HB => ?_; (case side1 => exact Kd.R_V (Kd.R_tight rfl (Kd.R_types (O2.out) B1.out (by decide)))); (case side2 => exact Kd.R_V (Kd.R_tight rfl (Kd.R_types (O1.out) B1.out (by decide)))); replace O1 := rB O1 hb; replace O2 := rB O2 hb; replace B1 := bB B1 hb; clear hb; obtain ⟨_, _, _, _, _, _⟩ := xB3 B1))
  refine pRt 23 #[.bool t3, .string t4, .string t5] B1 Tryz.underlying23 ?_
  exact ⟨zE, zH⟩
def R1Fraction.f (k : Nat) (a0 a1 : Int) : Option (Bool × ByteArray × ByteArray × Bool) := (R1size.f a0).bind fun t751 => ((R1FromUint.f k t751).bind fun t752 => ((R1size.f a1).bind fun t753 => ((R1FromUint.f k t753).bind fun t754 => ((R1Make.f k ((decide (a0 < 0)) != (decide (a1 < 0))) t752 t754).bind fun bt755 => (some (bt755.1, bt755.2.1, bt755.2.2.1, bt755.2.2.2))))))
theorem R1Fraction.calls (k : Nat) (a0 a1 : Int) (r1 : Bool) (r2 r3 : ByteArray) (r4 : Bool) (w : World) (H : R1Fraction.f k a0 a1 = some (r1, r2, r3, r4)) :
 Calls Tryz.prog 29 #[.int .i64 a0, .int .i64 a1] w fun e w' => e = .returned (.tuple #[.agg #[.bool r1, .string r2, .string r3], .bool r4]) ∧ Below w.heap.size w w' := by
 have hu1 := Tryz.underlying23
 have HB := Aside0.mk (Below.refl w.heap.size w)
 unfold R1Fraction.f at H
 replace ⟨t1, A1, H⟩ := bS H
 replace ⟨t2, A2, H⟩ := bS H
 replace ⟨t3, A3, H⟩ := bS H
 replace ⟨t4, A4, H⟩ := bS H
 replace ⟨⟨t5, t6, t7, t8⟩, A5, H⟩ := bS H
 (try dsimp only at H)
 simp only [Option.some.injEq, Prod.mk.injEq] at H
 obtain ⟨rfl, rfl, rfl, rfl⟩ := H
 go_enter Tryz.func29, Tryz.ntmps29
 go_wp2_with (first | (refine bxZ w 4 23 fun g1 w1 B1 G1 hg hb HB => ?_; clear hb hg) | (refine gF 12 Tryz.func53 (R1size.calls a0 t1 _ A1.out) fun w1 hb HB => ?_; replace B1 := bB B1 hb; clear hb) | (refine gB 13 Tryz.func52 (R1FromUint.calls _ _ _ _ A2.out) fun w2 hb HB => ?_; replace B1 := bB B1 hb; clear hb) | (refine gF 15 Tryz.func53 (R1size.calls a1 t3 _ A3.out) fun w2 hb HB => ?_; replace B1 := bB B1 hb; clear hb) | (refine gB 16 Tryz.func52 (R1FromUint.calls _ _ _ _ A4.out) fun w3 hb HB => ?_; replace B1 := bB B1 hb; clear hb) | (refine gB 17 Tryz.func55 (R1Make.calls _ _ _ _ _ _ _ _ _ A5.out) fun w4 hb HB => ?_; replace B1 := bB B1 hb; clear hb; obtain ⟨_, _, _, _, _, _⟩ := xB3 B1))
 refine pRt 23 #[.bool t5, .string t6, .string t7] B1 Tryz.underlying23 ?_
 exact ⟨zE, zH⟩
end Go.Proofs.YtggfilmdfpmbmaaGreatDoor.QN
end
