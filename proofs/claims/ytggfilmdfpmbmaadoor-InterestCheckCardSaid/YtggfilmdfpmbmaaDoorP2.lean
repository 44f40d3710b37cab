/-
  Steps and laws behind the statement that the claim's last text proves: the words of the walks, the walks of the Go functions (printed by a program of this session's own, then shortened by one), and what they compute. Conditions: stated at each theorem.
-/
import Derived.Test.YtggfilmdfpmbmaaDoorP1
import Derived.Test.YtggfilmdfpmbmaaDoorP0
section
namespace Go.Proofs.YtggfilmdfpmbmaaDoor.QN
open Go.RowKit Go.Proofs.YtggfilmdfpmbmaaDoorW.PrintWords Go.Proofs.YtggfilmdfpmbmaaDoorW.PrintLast Go.Proofs.YtggfilmdfpmbmaaDoorW.PrintMore
attribute [local go_sem] max2_int min2_int max_two min_two max_three min_three max_four min_four   -- for this text's walks alone
set_option linter.unusedVariables false
set_option linter.unusedSimpArgs false
def N1Divide.f (k : Nat) (a0 : ByteArray) (a1 : ByteArray) : Option (ByteArray × ByteArray × Bool) := (N1parse.f k a1).bind fun t230 => (if (t230.length : Int) = 0 then (some ((⟨#[]⟩ : ByteArray), (⟨#[]⟩ : ByteArray), false)) else ((N1parse.f k a0).bind fun t233 => ((N1divide.f k t233 t230).bind fun bt236 => ((N1limbs_text.f k bt236.1).bind fun t242 => ((N1limbs_text.f k bt236.2).bind fun t243 => (some (t242, t243, true)))))))
set_option maxHeartbeats 8000000 in
set_option maxRecDepth 100000 in
theorem N1Divide.calls (k : Nat) (a0 : ByteArray) (a1 : ByteArray) (r1 : ByteArray) (r2 : ByteArray) (r3 : Bool) (w : World) (h : N1Divide.f k a0 a1 = some (r1, r2, r3)) :
 Calls Tryd.prog 65 #[.string a0, .string a1] w fun e w' => e = .returned (.tuple #[.string r1, .string r2, .bool r3]) ∧ Below w.heap.size w w' := by
 have HB := Aside0.mk (Below.refl w.heap.size w)
 have H : ((N1parse.f k a1).bind fun t230 => (if (t230.length : Int) = 0 then (some ((⟨#[]⟩ : ByteArray), (⟨#[]⟩ : ByteArray), false)) else ((N1parse.f k a0).bind fun t233 => ((N1divide.f k t233 t230).bind fun bt236 => ((N1limbs_text.f k bt236.1).bind fun t242 => ((N1limbs_text.f k bt236.2).bind fun t243 => (some (t242, t243, true)))))))) = some (r1, r2, r3) := h
 clear h
 replace H := Option.bind_eq_some_iff.mp H
 obtain ⟨t230, A30, H⟩ := H
 (try dsimp only at H)
 have A3 := Aside0.mk A30
 clear A30
 by_cases c4 : (t230.length : Int) = 0
 ·rw [if_pos c4] at H
  have c4b0 := beq_iff_eq.mpr c4
  have c4b1 : ((t230.length : Int) != 0) = false := bne_eq_false_iff_eq.mpr c4
  clear c4
  simp only [Option.some.injEq, Prod.mk.injEq] at H
  obtain ⟨rfl, rfl, rfl⟩ := H
  go_enter Tryd.func65, Tryd.ntmps65
  go_wp2_with (first | (refine goesLA 11 Tryd.func66 #[.string a1] ?_; (with_reducible refine (N1parse.calls k a1 t230 _ A3.out).mono ?_); rintro e w5 ⟨v231, rfl, ho0, hb⟩; refine ⟨_, rfl, ?_⟩; have n0_ := Aside0.mk (Kd.V_lower (Kd.V_mono (ok' := fun k_ => True) ho0 (fun k_ hk_ => trivial)) (below_size zH)); have n1_ := sB hb; revert n0_ n1_; clear HB; intro HO232 HB; (try clear hb); (try clear hb2); (try clear hk); (try clear hi); (try clear ho0); obtain ⟨Ao6, co6, eo6⟩ := Kd.V_slice HO232.out; subst eo6))
  go_ret3
  exact ⟨zE, zH⟩
 ·rw [if_neg c4] at H
  have c4b0 := beq_eq_false_iff_ne.mpr c4
  have c4b1 := bne_iff_ne.mpr c4
  have c4b2 : ¬ (t230 = []) := fun h_ => c4 (by rw [h_]; rfl)
  replace H := Option.bind_eq_some_iff.mp H
  obtain ⟨t233, A70, H⟩ := H
  (try dsimp only at H)
  have A7 := Aside0.mk A70
  clear A70
  replace H := Option.bind_eq_some_iff.mp H
  obtain ⟨⟨t236, t239⟩, A80, H⟩ := H
  (try dsimp only at H)
  have A8 := Aside0.mk A80
  clear A80
  replace H := Option.bind_eq_some_iff.mp H
  obtain ⟨t242, A90, H⟩ := H
  (try dsimp only at H)
  have A9 := Aside0.mk A90
  clear A90
  replace H := Option.bind_eq_some_iff.mp H
  obtain ⟨t243, A100, H⟩ := H
  (try dsimp only at H)
  have A10 := Aside0.mk A100
  clear A100
  simp only [Option.some.injEq, Prod.mk.injEq] at H
  obtain ⟨rfl, rfl, rfl⟩ := H
  go_enter Tryd.func65, Tryd.ntmps65
  go_wp2_with (first | (refine goesLA 11 Tryd.func66 #[.string a1] ?_; (with_reducible refine (N1parse.calls k a1 t230 _ A3.out).mono ?_); rintro e w11 ⟨v231, rfl, ho0, hb⟩; refine ⟨_, rfl, ?_⟩; have n0_ := Aside0.mk (Kd.V_lower (Kd.V_mono (ok' := fun k_ => True) ho0 (fun k_ hk_ => trivial)) (below_size zH)); have n1_ := sB hb; revert n0_ n1_; clear HB; intro HO232 HB; (try clear hb); (try clear hb2); (try clear hk); (try clear hi); (try clear ho0); obtain ⟨Ao12, co12, eo12⟩ := Kd.V_slice HO232.out; subst eo12) | (refine goesLA 17 Tryd.func66 #[.string a0] ?_; (with_reducible refine (N1parse.calls k a0 t233 _ A7.out).mono ?_); rintro e w13 ⟨v234, rfl, ho0, hb⟩; refine ⟨_, rfl, ?_⟩; have n0_ := Aside0.mk (Kd.V_below zq25 hb); have n1_ := Aside0.mk (Kd.V_lower (Kd.V_mono (ok' := fun k_ => True) ho0 (fun k_ hk_ => trivial)) (below_size zH)); have n2_ := sB hb; revert n0_ n1_ n2_; clear HO232 HB; intro HO232 HO235 HB; (try clear hb); (try clear hb2); (try clear hk); (try clear hi); (try clear ho0); obtain ⟨Ao14, co14, eo14⟩ := Kd.V_slice HO235.out; subst eo14) | (refine goesLA 19 Tryd.func85 #[.slice Ao14 t233.length co14, .slice Ao12 t230.length co12] ?_; (with_reducible refine (N1divide.calls k (fun k_ => True) _ _ t233 _ _ t230 t236 t239 _ ?side1 ?side2 ?side3 A8.out).mono ?_); (case side1 => exact HO235.out); (case side2 => repeat (first | exact (Kd.V_reads' HO232.out).2.2 | (with_reducible refine Kd.C_alloc ?_ _) | (with_reducible refine Kd.C_drewN ?_ _) | (with_reducible refine Kd.C_drew ?_))); (case side3 => exact (Kd.V_reads' HO232.out).2.1); rintro e w15 ⟨v237, v240, rfl, ho0, ho1, hb⟩; refine ⟨_, rfl, ?_⟩; have n0_ := Aside0.mk (Kd.V_below zq25 hb); have n1_ := Aside0.mk (Kd.V_below zq41 hb); have n2_ := Aside0.mk (Kd.V_lower (Kd.V_mono (ok' := fun k_ => True) ho0 (fun k_ hk_ => trivial)) (below_size zH)); have n3_ := Aside0.mk (Kd.V_lower (Kd.V_mono (ok' := fun k_ => True) ho1 (fun k_ hk_ => trivial)) (below_size zH)); have n4_ := sB hb; revert n0_ n1_ n2_ n3_ n4_; clear HO232 HO235 HB; intro HO232 HO235 HO238 HO241 HB; (try clear hb); (try clear hb2); (try clear hk); (try clear hi); (try clear ho0); (try clear ho1); obtain ⟨Ao16, co16, eo16⟩ := Kd.V_slice HO238.out; subst eo16) | (refine goesLA 23 Tryd.func67 #[.slice Ao16 t236.length co16] ?_; (with_reducible refine (N1limbs_text.calls k _ _ t236 t242 _ ?side1 ?side2 A9.out).mono ?_); (case side1 => repeat (first | exact (Kd.V_reads' HO238.out).2.2 | (with_reducible refine Kd.C_alloc ?_ _) | (with_reducible refine Kd.C_drewN ?_ _) | (with_reducible refine Kd.C_drew ?_))); (case side2 => exact (Kd.V_reads' HO238.out).2.1); rintro e w17 ⟨rfl, hb⟩; refine ⟨_, rfl, ?_⟩; have n0_ := Aside0.mk (Kd.V_below zq25 hb); have n1_ := Aside0.mk (Kd.V_below zq41 hb); have n2_ := Aside0.mk (Kd.V_below (by (with_reducible repeat (first | apply Kd.V_alloc | apply Kd.V_drewN | apply Kd.V_drew)); exact HO238.out) hb); have n3_ := Aside0.mk (Kd.V_below (by (with_reducible repeat (first | apply Kd.V_alloc | apply Kd.V_drewN | apply Kd.V_drew)); exact HO241.out) hb); have n4_ := sB hb; revert n0_ n1_ n2_ n3_ n4_; clear HO232 HO235 HO238 HO241 HB; intro HO232 HO235 HO238 HO241 HB; (try clear hb); (try clear hb2); (try clear hk); (try clear hi); obtain ⟨Ao18, co18, eo18⟩ := Kd.V_slice HO241.out; subst eo18) | (refine goesLA 25 Tryd.func67 #[.slice Ao18 t239.length co18] ?_; (with_reducible refine (N1limbs_text.calls k _ _ t239 t243 _ ?side1 ?side2 A10.out).mono ?_); (case side1 => repeat (first | exact (Kd.V_reads' HO241.out).2.2 | (with_reducible refine Kd.C_alloc ?_ _) | (with_reducible refine Kd.C_drewN ?_ _) | (with_reducible refine Kd.C_drew ?_))); (case side2 => exact (Kd.V_reads' HO241.out).2.1); rintro e w19 ⟨rfl, hb⟩; refine ⟨_, rfl, ?_⟩; have n0_ := Aside0.mk (Kd.V_below zq25 hb); have n1_ := Aside0.mk (Kd.V_below zq41 hb); have n2_ := Aside0.mk (Kd.V_below (by (with_reducible repeat (first | apply Kd.V_alloc | apply Kd.V_drewN | apply Kd.V_drew)); exact HO238.out) hb); have n3_ := Aside0.mk (Kd.V_below (by (with_reducible repeat (first | apply Kd.V_alloc | apply Kd.V_drewN | apply Kd.V_drew)); exact HO241.out) hb); have n4_ := sB hb; revert n0_ n1_ n2_ n3_ n4_; clear HO232 HO235 HO238 HO241 HB; intro HO232 HO235 HO238 HO241 HB; (try clear hb); (try clear hb2); (try clear hk); (try clear hi)))
  go_ret3
  exact ⟨zE, zH⟩
mutual
def N1Add.j0 : Nat → List Int → List Int → Option (ByteArray)
 | 0, _, _ => none
 | k + 1, x5, x6 => if 0 ≤ (wrap64 ((x5.length : Int) + 1)) then (if (wrap64 ((x5.length : Int) + 1) : Int).toNat ≤ 70368744177664 then (N1Add.l0 k x5 x6 (List.replicate (wrap64 ((x5.length : Int) + 1) : Int).toNat 0) 0 (x5.length : Int) 0) else (none)) else (none)
def N1Add.l0 : Nat → List Int → List Int → List Int → Int → Int → Int → Option (ByteArray)
 | 0, _, _, _, _, _, _ => none
 | k + 1, x5, x6, x7, x8, x27, x28 => if x28 < x27 then (if x28 < (x6.length : Int) then (if 0 ≤ x28 then (if x28 < (x5.length : Int) then ((bits_Add32.f (rd x5 x28) (rd x6 x28) x8).bind fun bt255 => (if x28 < (x7.length : Int) then (N1Add.l0 k x5 x6 (x7.set (x28 : Int).toNat bt255.1) bt255.2 x27 (wrap64 (x28 + 1))) else (none))) else (none)) else (none)) else (if 0 ≤ x28 then (if x28 < (x5.length : Int) then ((bits_Add32.f (rd x5 x28) 0 x8).bind fun bt259 => (if x28 < (x7.length : Int) then (N1Add.l0 k x5 x6 (x7.set (x28 : Int).toNat bt259.1) bt259.2 x27 (wrap64 (x28 + 1))) else (none))) else (none)) else (none))) else (if 0 ≤ (x5.length : Int) then (if (x5.length : Int) < (x7.length : Int) then ((N1limbs_text.f k (x7.set ((x5.length : Int) : Int).toNat x8)).bind fun t263 => (some t263)) else (none)) else (none))
end
def N1Add.f (k : Nat) (a0 : ByteArray) (a1 : ByteArray) : Option (ByteArray) := (N1parse.f k a0).bind fun t244 => ((N1parse.f k a1).bind fun t247 => (if (t244.length : Int) < (t247.length : Int) then (N1Add.j0 k t247 t244) else (N1Add.j0 k t244 t247)))
set_option maxHeartbeats 8000000 in
set_option maxRecDepth 100000 in
theorem N1Add.calls (k : Nat) (a0 : ByteArray) (a1 : ByteArray) (r : ByteArray) (w : World) (h : N1Add.f k a0 a1 = some r) :
 Calls Tryd.prog 68 #[.string a0, .string a1] w fun e w' => e = .returned (.string r) ∧ Below w.heap.size w w' := by
 have HB := Aside0.mk (Below.refl w.heap.size w)
 have H : ((N1parse.f k a0).bind fun t244 => ((N1parse.f k a1).bind fun t247 => (if (t244.length : Int) < (t247.length : Int) then (N1Add.j0 k t247 t244) else (N1Add.j0 k t244 t247)))) = some r := h
 clear h
 replace H := Option.bind_eq_some_iff.mp H
 obtain ⟨t244, A30, H⟩ := H
 (try dsimp only at H)
 have A3 := Aside0.mk A30
 clear A30
 replace H := Option.bind_eq_some_iff.mp H
 obtain ⟨t247, A40, H⟩ := H
 (try dsimp only at H)
 have A4 := Aside0.mk A40
 clear A40
 have HC5 := Aside0.mk H
 clear H
 go_enter Tryd.func68, Tryd.ntmps68
 go_upto_if 19 with (first | (refine goesLA 12 Tryd.func66 #[.string a0] ?_; (with_reducible refine (N1parse.calls k a0 t244 _ A3.out).mono ?_); rintro e w6 ⟨v245, rfl, ho0, hb⟩; refine ⟨_, rfl, ?_⟩; have n0_ := Aside0.mk (Kd.V_lower (Kd.V_mono (ok' := fun k_ => True) ho0 (fun k_ hk_ => trivial)) (below_size zH)); have n1_ := sB hb; revert n0_ n1_; clear HB; intro HO246 HB; (try clear hb); (try clear hb2); (try clear hk); (try clear hi); (try clear ho0)) | (refine goesLA 14 Tryd.func66 #[.string a1] ?_; (with_reducible refine (N1parse.calls k a1 t247 _ A4.out).mono ?_); rintro e w7 ⟨v248, rfl, ho0, hb⟩; refine ⟨_, rfl, ?_⟩; have n0_ := Aside0.mk (Kd.V_below (by (with_reducible repeat (first | apply Kd.V_alloc | apply Kd.V_drewN | apply Kd.V_drew)); exact HO246.out) hb); have n1_ := Aside0.mk (Kd.V_lower (Kd.V_mono (ok' := fun k_ => True) ho0 (fun k_ hk_ => trivial)) (below_size zH)); have n2_ := sB hb; revert n0_ n1_ n2_; clear HO246 HB; intro HO246 HO249 HB; (try clear hb); (try clear hb2); (try clear hk); (try clear hi); (try clear ho0); obtain ⟨Ao8, co8, eo8⟩ := Kd.V_slice HO246.out; subst eo8; obtain ⟨Ao9, co9, eo9⟩ := Kd.V_slice HO249.out; subst eo9))
 (try simp only [Act.put, List.setIfInBounds_toArray, List.set_cons_zero, List.set_cons_succ])
 go_cut [5, 6] (fun v5 v6 wc => ∃ (kq : Nat) (x5_4 : List Int) (x6_4 : List Int), Aside0 (N1Add.j0 kq x5_4 x6_4 = some r) ∧ Aside0 (kq ≤ k) ∧ Aside0 (Kd.V (Kd.int .u32) 86 wc w.heap.size (fun _ => True) v5 x5_4) ∧ Aside0 (Kd.V (Kd.int .u32) 86 wc w.heap.size (fun _ => True) v6 x6_4) ∧ Aside0 (Below w.heap.size w wc))
 case first =>
  have H := HC5.out
  clear HC5
  by_cases c10 : (t244.length : Int) < (t247.length : Int)
  ·rw [if_pos c10] at H
   have c10b0 := decide_eq_true c10
   have c10b1 : decide (t244.length < t247.length) = true := decide_eq_true (Int.ofNat_lt.mp c10)
   clear c10
   (first | rw [c10b0] | (simp only [i64_w, i32_w]; rw [c10b0]) | rw [c10b1] | skip)
   have H' := Aside0.mk H
   clear H
   go_wp2
   go_meet
   case rel => exact ⟨_, (t247), (t244), H', ⟨by first | omega | exact Nat.le_refl _⟩, ⟨by (with_reducible repeat (first | apply Kd.V_alloc | apply Kd.V_drewN | apply Kd.V_drew)); exact HO249.out⟩, ⟨by (with_reducible repeat (first | apply Kd.V_alloc | apply Kd.V_drewN | apply Kd.V_drew)); exact HO246.out⟩, ⟨zH⟩⟩
  ·rw [if_neg c10] at H
   have c10b0 := decide_eq_false c10
   have c10b1 : decide (t244.length < t247.length) = false := decide_eq_false (fun h => c10 (Int.ofNat_lt.mpr h))
   clear c10
   (first | rw [c10b0] | (simp only [i64_w, i32_w]; rw [c10b0]) | rw [c10b1] | skip)
   have H' := Aside0.mk H
   clear H
   go_wp2
   go_meet
   case rel => exact ⟨_, (t244), (t247), H', ⟨by first | omega | exact Nat.le_refl _⟩, ⟨by (with_reducible repeat (first | apply Kd.V_alloc | apply Kd.V_drewN | apply Kd.V_drew)); exact HO246.out⟩, ⟨by (with_reducible repeat (first | apply Kd.V_alloc | apply Kd.V_drewN | apply Kd.V_drew)); exact HO249.out⟩, ⟨zH⟩⟩
 case rest =>
  clear HC5
  (try clear c1); (try clear p2); (try clear c6); (try clear c10); (try clear c10b0); (try clear c10b1)
  obtain ⟨kq, x5_4, x6_4, HA, HJ4, HO_5, HO_6, HB⟩ := hcut
  cases kq with
  | zero => exact absurd HA.out (by simp [N1Add.j0])
  | succ kj4 =>
   have H := HA.out
   clear HA
   simp only [N1Add.j0] at H
   obtain ⟨ji11, hji11⟩ : ∃ j_ : Int, (wrap64 ((x5_4.length : Int) + 1)) = j_ := ⟨_, rfl⟩
   first | rw [hji11] at H | simp only [hji11] at H
   have hji11w : (IntKind.i64.wrap ((x5_4.length : Int) + 1)) = ji11 := (i64_w _).trans hji11
   replace H := of_ite H
   obtain ⟨c12, H⟩ := H
   have c12b0 := eq_true c12
   have c12b1 := decide_eq_true c12
   clear c12
   replace H := of_ite H
   obtain ⟨c13, H⟩ := H
   have c13b0 := eq_true c13
   have c13b1 := decide_eq_true c13
   clear c13
   obtain ⟨y250, hy250⟩ : ∃ y_ : List Int, y_ = (List.replicate (ji11 : Int).toNat 0) := ⟨_, rfl⟩
   replace H : (N1Add.l0 kj4 x5_4 x6_4 y250 0 (x5_4.length : Int) 0) = some r := by first | (rw [hy250]; with_reducible exact H) | (have H2_ := (Option.bind_some _ _).symm.trans H; rw [hy250]; with_reducible exact H2_) | (have H2_ := (Option.bind_some _ _).symm.trans H; with_reducible exact H2_) | with_reducible exact H | (rw [hy250]; exact H) | exact H
   have Ny250 := Aside0.mk hy250
   clear hy250
   have H' := Aside0.mk H
   clear H
   obtain ⟨Ao14, co14, eo14⟩ := Kd.V_slice HO_5.out
   subst eo14
   go_wp2_with (first | ((with_reducible refine gate_dst (N := 25) rfl ?_); refine Kd.R_make (Kd.int .u32) _ 86 rfl (N := 25) rfl 84 _ _ rfl ji11 rfl rfl Tryd.underlying84 (.int .u32 0) 4 info86 rfl (by decide) (by omega) 0 (ok := fun _ => True) (okp := fun _ => True) rfl (fun _ hk => hk) trivial (of_decide_eq_true zq0) (Nat.le_trans (Nat.mul_le_mul_right _ (of_decide_eq_true zq0 : ji11.toNat ≤ 70368744177664)) (by omega)) (Below.refl _ _) (Nat.le_refl _) ?_; intro v251 w15 ho16 hb hg_ hnew_; clear hg_ hnew_; (first | rw [← Ny250.out] at ho16 | (simp only [Int.reduceToNat] at ho16; rw [← Ny250.out] at ho16)); have n0_ := Aside0.mk (Kd.V_elder' zq15 (Kd.R_base ho16) hb); have n1_ := Aside0.mk (Kd.V_elder' zq12 (Kd.R_base ho16) hb); have n2_ := Aside0.mk (Kd.R_lower ho16 (below_size zH)); have n3_ := sB hb; revert n0_ n1_ n2_ n3_; clear HO_5 HO_6 HB; intro HO_5 HO_6 HO252 HB; clear hb ho16))
   go_loopg [8, 28] kj4 (fun kq v8 v28 w' => ∃ (x7_2 : List Int) (x8_2 : Int) (x28_2 : Int), v8 = .int .u32 x8_2 ∧ v28 = .int .i64 x28_2 ∧ Aside0 (N1Add.l0 kq x5_4 x6_4 x7_2 x8_2 (x5_4.length : Int) x28_2 = some r) ∧ Aside0 (kq ≤ kj4) ∧ Aside0 (Kd.V (Kd.int .u32) 86 w' w.heap.size (fun k_ => some k_ ≠ (v251 : Value).ownBlock) (.slice Ao14 x5_4.length co14) x5_4) ∧ Aside0 (Kd.V (Kd.int .u32) 86 w' w.heap.size (fun k_ => some k_ ≠ (v251 : Value).ownBlock) u6 x6_4) ∧ Aside0 (Kd.R (Kd.int .u32) 86 w' w.heap.size (fun _ => True) v251 x7_2) ∧ Aside0 (Below w.heap.size w w'))
   case atStart => exact ⟨(y250), (0), (0), zq1, zq1, H', ⟨Nat.le_refl _⟩, ⟨by (with_reducible repeat (first | apply Kd.V_alloc | apply Kd.V_drewN | apply Kd.V_drew)); exact Kd.V_mono HO_5.out (fun _ hk => hk.2)⟩, ⟨by (with_reducible repeat (first | apply Kd.V_alloc | apply Kd.V_drewN | apply Kd.V_drew)); exact Kd.V_mono HO_6.out (fun _ hk => hk.2)⟩, ⟨by (with_reducible repeat (first | apply Kd.R_alloc | apply Kd.R_drewN | apply Kd.R_drew)); exact HO252.out⟩, ⟨zH⟩⟩
   case round =>
    clear H'
    (try clear c1); (try clear p2); (try clear c6); (try clear p6); (try clear c10); (try clear c10b0); (try clear c10b1); (try clear c12); (try clear c12b0); (try clear c12b1); (try clear c13); (try clear c13b0); (try clear c13b1); (try clear p2)
    obtain ⟨x7_2, x8_2, x28_2, rfl, rfl, HA, HK2, HO_5, HO_6, HO_7, HB⟩ := hrel
    cases gk with
    | zero => exact absurd HA.out (by simp [N1Add.l0])
    | succ k2 =>
     have H := HA.out
     clear HA
     simp only [N1Add.l0] at H
     by_cases c17 : x28_2 < (x5_4.length : Int)
     ·rw [if_pos c17] at H
      have c17b0 := decide_eq_true c17
      clear c17
      by_cases c18 : x28_2 < (x6_4.length : Int)
      ·rw [if_pos c18] at H
       have c18b0 := decide_eq_true c18
       clear c18
       replace H := of_ite H
       obtain ⟨c19, H⟩ := H
       have c19b0 := decide_eq_true c19
       clear c19
       replace H := of_ite H
       obtain ⟨c20, H⟩ := H
       have c20b0 := decide_eq_true c20
       clear c20
       replace H := Option.bind_eq_some_iff.mp H
       obtain ⟨⟨t255, t256⟩, A210, H⟩ := H
       (try dsimp only at H)
       have A21 := Aside0.mk A210
       clear A210
       replace H := of_ite H
       obtain ⟨c22, H⟩ := H
       have c22b0 := decide_eq_true c22
       clear c22
       obtain ⟨y257, hy257⟩ : ∃ y_ : List Int, y_ = (x7_2.set (x28_2 : Int).toNat t255) := ⟨_, rfl⟩
       replace H : (N1Add.l0 k2 x5_4 x6_4 y257 t256 (x5_4.length : Int) (wrap64 (x28_2 + 1))) = some r := by first | (rw [hy257]; with_reducible exact H) | (have H2_ := (Option.bind_some _ _).symm.trans H; rw [hy257]; with_reducible exact H2_) | (have H2_ := (Option.bind_some _ _).symm.trans H; with_reducible exact H2_) | with_reducible exact H | (rw [hy257]; exact H) | exact H
       have Ny257 := Aside0.mk hy257
       clear hy257
       have H' := Aside0.mk H
       clear H
       obtain ⟨Ao24, co24, eo24⟩ := Kd.V_slice HO_6.out
       subst eo24
       have p253 : 0 ≤ (x28_2 : Int) := of_decide_eq_true zq0
       have q253 : x28_2 < (x6_4.length : Int) := of_decide_eq_true zq0
       obtain ⟨ad253, e253, hx253_0⟩ := Kd.at_int (Kd.V_reads' HO_6.out).2.2 x28_2 p253 q253
       cases e253
       replace p253 := eq_true p253
       replace q253 := eq_true q253
       have p254 : 0 ≤ (x28_2 : Int) := of_decide_eq_true zq0
       have q254 : x28_2 < (x5_4.length : Int) := of_decide_eq_true zq0
       obtain ⟨ad254, e254, hx254_0⟩ := Kd.at_int (Kd.V_reads' HO_5.out).2.2 x28_2 p254 q254
       cases e254
       replace p254 := eq_true p254
       replace q254 := eq_true q254
       go_wp2_with (first | (refine goesLA 48 Tryd.func87 #[.int .u32 (rd x5_4 x28_2), .int .u32 (rd x6_4 x28_2), .int .u32 x8_2] ?_; (with_reducible refine (bits_Add32.calls (rd x5_4 x28_2) (rd x6_4 x28_2) x8_2 t255 t256 _ A21.out).mono ?_); rintro e w' ⟨rfl, ⟨nd, rfl⟩⟩; refine ⟨_, rfl, ?_⟩; (try (rw [drewN_self wr]; generalize hq_ : World.drewN wr _ = wr; have n0_ : Aside0 (Kd.V (Kd.int .u32) 86 wr w.heap.size (fun k_ => some k_ ≠ (v251 : Value).ownBlock) (.slice (some ad254) x5_4.length co14) x5_4) := ⟨by rw [← hq_]; exact zq15⟩; have n1_ : Aside0 (Kd.V (Kd.int .u32) 86 wr w.heap.size (fun k_ => some k_ ≠ (v251 : Value).ownBlock) (.slice (some ad253) x6_4.length co24) x6_4) := ⟨by rw [← hq_]; exact zq12⟩; have n2_ : Aside0 (Kd.R (Kd.int .u32) 86 wr w.heap.size (fun _ => True) v251 x7_2) := ⟨by rw [← hq_]; exact zq26⟩; have n3_ : Aside0 (Below w.heap.size w wr) := ⟨by rw [← hq_]; exact zH⟩; clear HO_5 HO_6 HO_7 HB hq_; have HO_5 := n0_; have HO_6 := n1_; have HO_7 := n2_; have HB := n3_; clear n0_ n1_ n2_ n3_)); have p23 : 0 ≤ (x28_2 : Int) := of_decide_eq_true zq0; have q23 : (x28_2 : Int) < ((x7_2.length : Int) : Int) := of_decide_eq_true zq0; obtain ⟨go23, co23, eo23, gb23, gl23, cl23, HG23⟩ := Kd.R_form HO_7.out (by omega); (first | cases eo23 | (injection eo23 with ea_ en_ ec_; (first | subst ea_ | (injection ea_ with ea_; subst ea_)); subst ec_; clear en_)); have GB23 := Aside0.mk gb23; have GG23 := Aside0.mk HG23; clear gb23 gl23 HG23; obtain ⟨hx23_0, hf23_0⟩ := Kd.R_celln 0 HO_7.out (x28_2 : Int) p23 q23; replace p23 := eq_true p23; replace q23 := eq_true q23; obtain ⟨hy25_, hz25_⟩ := Kd.R_celln 0 HO_7.out (x28_2 : Int) (of_decide_eq_true zq0) (of_decide_eq_true zq0); have HP25 := Kd.R_putg HO_7.out (x28_2 : Int) t255) | ((with_reducible refine gate_store (t := 86) (p := 51) rfl ?_); refine store_event (t := 86) (p := 51) (v := ?vo_w26) (w1 := (wr.setCell ⟨go23, (x28_2 : Int).toNat, none⟩ (.int .u32 t255))) ?hg ?ho ?hn ?hr ?_; (case ho => rfl); (case hg => rfl); (case hn => rfl); (case hr => first | (go_simp; done) | (go_simp; rfl)); intro w26 hw; have hg : wr.grownBy w26 (some go23) := (by rw [hw]; exact HP25.2); have hp_ : Kd.R (Kd.int .u32) 86 w26 w.heap.size (fun _ => True) (.slice (some ⟨go23, 0, none⟩) x7_2.length co23) y257 := (by rw [hw, Ny257.out]; exact HP25.1); clear HP25; have n0_ := Aside0.mk (Kd.V_afterv (v := (.slice (some ⟨go23, 0, none⟩) x7_2.length co23)) (v1 := (.slice (some ⟨go23, 0, none⟩) x7_2.length co23)) (ok := (fun _ => True)) zq42 hg (.inl rfl)); have n1_ := Aside0.mk (Kd.V_afterv (v := (.slice (some ⟨go23, 0, none⟩) x7_2.length co23)) (v1 := (.slice (some ⟨go23, 0, none⟩) x7_2.length co23)) (ok := (fun _ => True)) zq19 hg (.inl rfl)); have n2_ := Aside0.mk (hp_); have n3_ := Aside0.mk ((by rw [hw]; exact below_set (HB.out) GB23.out : Below w.heap.size w w26)); revert n0_ n1_ n2_ n3_; clear HO_5 HO_6 HO_7 HB; intro HO_5 HO_6 HO_7 HB; clear hg hw hp_))
       go_roundg k2
       case measure => have := HJ4.out; have := HK2.out; omega
       case rel => exact ⟨(y257), (t256), (wrap64 (x28_2 + 1)), zq1, zq1, H', ⟨by have := HJ4.out; have := HK2.out; omega⟩, ⟨by (with_reducible repeat (first | apply Kd.V_alloc | apply Kd.V_drewN | apply Kd.V_drew)); exact Kd.V_mono HO_5.out (fun _ hk => hk.2)⟩, ⟨by (with_reducible repeat (first | apply Kd.V_alloc | apply Kd.V_drewN | apply Kd.V_drew)); exact Kd.V_mono HO_6.out (fun _ hk => hk.2)⟩, ⟨by (with_reducible repeat (first | apply Kd.R_alloc | apply Kd.R_drewN | apply Kd.R_drew)); exact HO_7.out⟩, ⟨zH⟩⟩
      ·rw [if_neg c18] at H
       have c18b0 := decide_eq_false c18
       clear c18
       replace H := of_ite H
       obtain ⟨c27, H⟩ := H
       have c27b0 := decide_eq_true c27
       clear c27
       replace H := of_ite H
       obtain ⟨c28, H⟩ := H
       have c28b0 := decide_eq_true c28
       clear c28
       replace H := Option.bind_eq_some_iff.mp H
       obtain ⟨⟨t259, t260⟩, A290, H⟩ := H
       (try dsimp only at H)
       have A29 := Aside0.mk A290
       clear A290
       replace H := of_ite H
       obtain ⟨c30, H⟩ := H
       have c30b0 := decide_eq_true c30
       clear c30
       obtain ⟨y261, hy261⟩ : ∃ y_ : List Int, y_ = (x7_2.set (x28_2 : Int).toNat t259) := ⟨_, rfl⟩
       replace H : (N1Add.l0 k2 x5_4 x6_4 y261 t260 (x5_4.length : Int) (wrap64 (x28_2 + 1))) = some r := by first | (rw [hy261]; with_reducible exact H) | (have H2_ := (Option.bind_some _ _).symm.trans H; rw [hy261]; with_reducible exact H2_) | (have H2_ := (Option.bind_some _ _).symm.trans H; with_reducible exact H2_) | with_reducible exact H | (rw [hy261]; exact H) | exact H
       have Ny261 := Aside0.mk hy261
       clear hy261
       have H' := Aside0.mk H
       clear H
       obtain ⟨Ao32, co32, eo32⟩ := Kd.V_slice HO_6.out
       subst eo32
       have p258 : 0 ≤ (x28_2 : Int) := of_decide_eq_true zq0
       have q258 : x28_2 < (x5_4.length : Int) := of_decide_eq_true zq0
       obtain ⟨ad258, e258, hx258_0⟩ := Kd.at_int (Kd.V_reads' HO_5.out).2.2 x28_2 p258 q258
       cases e258
       replace p258 := eq_true p258
       replace q258 := eq_true q258
       go_wp2_with (first | (refine goesLA 48 Tryd.func87 #[.int .u32 (rd x5_4 x28_2), .int .u32 0, .int .u32 x8_2] ?_; (with_reducible refine (bits_Add32.calls (rd x5_4 x28_2) 0 x8_2 t259 t260 _ A29.out).mono ?_); rintro e w' ⟨rfl, ⟨nd, rfl⟩⟩; refine ⟨_, rfl, ?_⟩; (try (rw [drewN_self wr]; generalize hq_ : World.drewN wr _ = wr; have n0_ : Aside0 (Kd.V (Kd.int .u32) 86 wr w.heap.size (fun k_ => some k_ ≠ (v251 : Value).ownBlock) (.slice (some ad258) x5_4.length co14) x5_4) := ⟨by rw [← hq_]; exact zq15⟩; have n1_ : Aside0 (Kd.V (Kd.int .u32) 86 wr w.heap.size (fun k_ => some k_ ≠ (v251 : Value).ownBlock) (.slice Ao32 x6_4.length co32) x6_4) := ⟨by rw [← hq_]; exact zq12⟩; have n2_ : Aside0 (Kd.R (Kd.int .u32) 86 wr w.heap.size (fun _ => True) v251 x7_2) := ⟨by rw [← hq_]; exact zq26⟩; have n3_ : Aside0 (Below w.heap.size w wr) := ⟨by rw [← hq_]; exact zH⟩; clear HO_5 HO_6 HO_7 HB hq_; have HO_5 := n0_; have HO_6 := n1_; have HO_7 := n2_; have HB := n3_; clear n0_ n1_ n2_ n3_)); have p31 : 0 ≤ (x28_2 : Int) := of_decide_eq_true zq0; have q31 : (x28_2 : Int) < ((x7_2.length : Int) : Int) := of_decide_eq_true zq0; obtain ⟨go31, co31, eo31, gb31, gl31, cl31, HG31⟩ := Kd.R_form HO_7.out (by omega); (first | cases eo31 | (injection eo31 with ea_ en_ ec_; (first | subst ea_ | (injection ea_ with ea_; subst ea_)); subst ec_; clear en_)); have GB31 := Aside0.mk gb31; have GG31 := Aside0.mk HG31; clear gb31 gl31 HG31; obtain ⟨hx31_0, hf31_0⟩ := Kd.R_celln 0 HO_7.out (x28_2 : Int) p31 q31; replace p31 := eq_true p31; replace q31 := eq_true q31; obtain ⟨hy33_, hz33_⟩ := Kd.R_celln 0 HO_7.out (x28_2 : Int) (of_decide_eq_true zq0) (of_decide_eq_true zq0); have HP33 := Kd.R_putg HO_7.out (x28_2 : Int) t259) | ((with_reducible refine gate_store (t := 86) (p := 51) rfl ?_); refine store_event (t := 86) (p := 51) (v := ?vo_w34) (w1 := (wr.setCell ⟨go31, (x28_2 : Int).toNat, none⟩ (.int .u32 t259))) ?hg ?ho ?hn ?hr ?_; (case ho => rfl); (case hg => rfl); (case hn => rfl); (case hr => first | (go_simp; done) | (go_simp; rfl)); intro w34 hw; have hg : wr.grownBy w34 (some go31) := (by rw [hw]; exact HP33.2); have hp_ : Kd.R (Kd.int .u32) 86 w34 w.heap.size (fun _ => True) (.slice (some ⟨go31, 0, none⟩) x7_2.length co31) y261 := (by rw [hw, Ny261.out]; exact HP33.1); clear HP33; have n0_ := Aside0.mk (Kd.V_afterv (v := (.slice (some ⟨go31, 0, none⟩) x7_2.length co31)) (v1 := (.slice (some ⟨go31, 0, none⟩) x7_2.length co31)) (ok := (fun _ => True)) zq42 hg (.inl rfl)); have n1_ := Aside0.mk (Kd.V_afterv (v := (.slice (some ⟨go31, 0, none⟩) x7_2.length co31)) (v1 := (.slice (some ⟨go31, 0, none⟩) x7_2.length co31)) (ok := (fun _ => True)) zq19 hg (.inl rfl)); have n2_ := Aside0.mk (hp_); have n3_ := Aside0.mk ((by rw [hw]; exact below_set (HB.out) GB31.out : Below w.heap.size w w34)); revert n0_ n1_ n2_ n3_; clear HO_5 HO_6 HO_7 HB; intro HO_5 HO_6 HO_7 HB; clear hg hw hp_))
       go_roundg k2
       case measure => have := HJ4.out; have := HK2.out; omega
       case rel => exact ⟨(y261), (t260), (wrap64 (x28_2 + 1)), zq1, zq1, H', ⟨by have := HJ4.out; have := HK2.out; omega⟩, ⟨by (with_reducible repeat (first | apply Kd.V_alloc | apply Kd.V_drewN | apply Kd.V_drew)); exact Kd.V_mono HO_5.out (fun _ hk => hk.2)⟩, ⟨by (with_reducible repeat (first | apply Kd.V_alloc | apply Kd.V_drewN | apply Kd.V_drew)); exact Kd.V_mono HO_6.out (fun _ hk => hk.2)⟩, ⟨by (with_reducible repeat (first | apply Kd.R_alloc | apply Kd.R_drewN | apply Kd.R_drew)); exact HO_7.out⟩, ⟨zH⟩⟩
     ·rw [if_neg c17] at H
      have c17b0 := decide_eq_false c17
      clear c17
      replace H := of_ite H
      obtain ⟨c35, H⟩ := H
      have c35b0 := decide_eq_true c35
      have c35b1 : decide (0 ≤ x5_4.length) = true := decide_eq_true (by omega)
      clear c35
      replace H := of_ite H
      obtain ⟨c36, H⟩ := H
      have c36b0 := decide_eq_true c36
      have c36b1 : decide (x5_4.length < x7_2.length) = true := decide_eq_true (Int.ofNat_lt.mp c36)
      clear c36
      obtain ⟨y262, hy262⟩ : ∃ y_ : List Int, y_ = (x7_2.set ((x5_4.length : Int) : Int).toNat x8_2) := ⟨_, rfl⟩
      replace H : ((N1limbs_text.f k2 y262).bind fun t263 => (some t263)) = some r := by first | (rw [hy262]; with_reducible exact H) | (have H2_ := (Option.bind_some _ _).symm.trans H; rw [hy262]; with_reducible exact H2_) | (have H2_ := (Option.bind_some _ _).symm.trans H; with_reducible exact H2_) | with_reducible exact H | (rw [hy262]; exact H) | exact H
      have Ny262 := Aside0.mk hy262
      clear hy262
      replace H := Option.bind_eq_some_iff.mp H
      obtain ⟨t263, A380, H⟩ := H
      (try dsimp only at H)
      have A38 := Aside0.mk A380
      clear A380
      obtain rfl := Option.some.inj H
      have p37 : 0 ≤ ((x5_4.length : Int) : Int) := of_decide_eq_true zq0
      have q37 : ((x5_4.length : Int) : Int) < ((x7_2.length : Int) : Int) := of_decide_eq_true zq0
      obtain ⟨go37, co37, eo37, gb37, gl37, cl37, HG37⟩ := Kd.R_form HO_7.out (by omega)
      (first | cases eo37 | (injection eo37 with ea_ en_ ec_; (first | subst ea_ | (injection ea_ with ea_; subst ea_)); subst ec_; clear en_))
      have GB37 := Aside0.mk gb37
      have GG37 := Aside0.mk HG37
      clear gb37 gl37 HG37
      obtain ⟨hx37_0, hf37_0⟩ := Kd.R_celln 0 HO_7.out ((x5_4.length : Int) : Int) p37 q37
      (try simp only [Go.IntWalk.toNatUp] at hx37_0 hf37_0)
      replace p37 := eq_true p37
      replace q37 := eq_true q37
      have HP39 := Kd.R_putg HO_7.out ((x5_4.length : Int) : Int) x8_2
      go_wp2_with (first | ((with_reducible refine gate_store (t := 86) (p := 57) rfl ?_); refine store_event (t := 86) (p := 57) (v := ?vo_w40) (w1 := (wr.setCell ⟨go37, ((x5_4.length : Int) : Int).toNat, none⟩ (.int .u32 x8_2))) ?hg ?ho ?hn ?hr ?_; (case ho => rfl); (case hg => rfl); (case hn => rfl); (case hr => first | (go_simp; done) | (go_simp; rfl)); intro w40 hw; have hg : wr.grownBy w40 (some go37) := (by rw [hw]; exact HP39.2); have hp_ : Kd.R (Kd.int .u32) 86 w40 w.heap.size (fun _ => True) (.slice (some ⟨go37, 0, none⟩) x7_2.length co37) y262 := (by rw [hw, Ny262.out]; exact HP39.1); clear HP39; have n0_ := Aside0.mk (Kd.V_afterv (v := (.slice (some ⟨go37, 0, none⟩) x7_2.length co37)) (v1 := (.slice (some ⟨go37, 0, none⟩) x7_2.length co37)) (ok := (fun _ => True)) zq42 hg (.inl rfl)); have n1_ := Aside0.mk (Kd.V_afterv (v := (.slice (some ⟨go37, 0, none⟩) x7_2.length co37)) (v1 := (.slice (some ⟨go37, 0, none⟩) x7_2.length co37)) (ok := (fun _ => True)) zq19 hg (.inl rfl)); have n2_ := Aside0.mk (hp_); have n3_ := Aside0.mk ((by rw [hw]; exact below_set (HB.out) GB37.out : Below w.heap.size w w40)); revert n0_ n1_ n2_ n3_; clear HO_5 HO_6 HO_7 HB; intro HO_5 HO_6 HO_7 HB; clear hg hw hp_) | ((with_reducible refine gate_callee (f := 67) rfl ?_); refine goesL_ (some 59) rfl rfl Tryd.func67 (by kernel_rfl) rfl #[.slice (some ⟨go37, 0, none⟩) y262.length co37] rfl (by (try simp only [List.map_toArray, List.map_cons, List.map_nil]); first | done | (rw [show y262.length = x7_2.length from (Kd.R_reads' HO_7.out).1.symm] <;> rfl) | rfl | (simp only [List.length_drop, List.length_take]; rfl)) ?_; (with_reducible refine (N1limbs_text.calls k2 _ _ y262 t263 _ ?side1 ?side2 A38.out).mono ?_); (case side1 => repeat (first | exact (Kd.R_reads' HO_7.out).2.2 | (with_reducible refine Kd.C_alloc ?_ _) | (with_reducible refine Kd.C_drewN ?_ _) | (with_reducible refine Kd.C_drew ?_))); (case side2 => rw [show y262.length = x7_2.length from (Kd.R_reads' HO_7.out).1.symm]; exact (Kd.R_reads' HO_7.out).2.1); rintro e w41 ⟨rfl, hb⟩; refine ⟨_, rfl, ?_⟩; have n0_ := Aside0.mk (Kd.V_below zq15 hb); have n1_ := Aside0.mk (Kd.V_below zq12 hb); have n2_ := Aside0.mk (Kd.R_below zq26 hb); have n3_ := sB hb; revert n0_ n1_ n2_ n3_; clear HO_5 HO_6 HO_7 HB; intro HO_5 HO_6 HO_7 HB; (try clear hb); (try clear hb2); (try clear hk); (try clear hi)))
      go_ret
      exact ⟨by first | rfl | (simp [errW_none, errW_some] <;> rfl) | (simp only [← hji11]; first | rfl | (simp [errW_none, errW_some] <;> rfl)) | (simp [*, errW_none, errW_some] <;> rfl), zH⟩
def N1subtract.l0 : Nat → List Int → List Int → List Int → Int → Int → Int → Option (List Int)
 | 0, _, _, _, _, _, _ => none
 | k + 1, x0, x1, x5, x6, x13, x14 => if x14 < x13 then (if x14 < (x1.length : Int) then (if 0 ≤ x14 then (if x14 < (x0.length : Int) then ((bits_Sub32.f (rd x0 x14) (rd x1 x14) x6).bind fun bt269 => (if x14 < (x5.length : Int) then (N1subtract.l0 k x0 x1 (x5.set (x14 : Int).toNat bt269.1) bt269.2 x13 (wrap64 (x14 + 1))) else (none))) else (none)) else (none)) else (if 0 ≤ x14 then (if x14 < (x0.length : Int) then ((bits_Sub32.f (rd x0 x14) 0 x6).bind fun bt273 => (if x14 < (x5.length : Int) then (N1subtract.l0 k x0 x1 (x5.set (x14 : Int).toNat bt273.1) bt273.2 x13 (wrap64 (x14 + 1))) else (none))) else (none)) else (none))) else ((N1limbs_trim.f k x5).bind fun t276 => (some t276))
def N1subtract.f (k : Nat) (l0 : List Int) (l1 : List Int) : Option (List Int) := if 0 ≤ (l0.length : Int) then (if ((l0.length : Int) : Int).toNat ≤ 70368744177664 then (N1subtract.l0 k l0 l1 (List.replicate ((l0.length : Int) : Int).toNat 0) 0 (l0.length : Int) 0) else (none)) else (none)
set_option maxHeartbeats 8000000 in
set_option maxRecDepth 100000 in
theorem N1subtract.calls (k : Nat) (A0 : Option Addr) (c0 : Nat) (l0 : List Int) (A1 : Option Addr) (c1 : Nat) (l1 : List Int) (r : List Int) (w : World) (hr0 : Kd.C (Kd.int .u32) w A0 l0.length l0) (hc0 : l0.length ≤ c0) (hr1 : Kd.C (Kd.int .u32) w A1 l1.length l1) (hc1 : l1.length ≤ c1) (h : N1subtract.f k l0 l1 = some r) :
 Calls Tryd.prog 89 #[.slice A0 l0.length c0, .slice A1 l1.length c1] w fun e w' => ∃ v0_ : Value, e = .returned (v0_) ∧ Kd.V (Kd.int .u32) 86 w' w.heap.size (fun k_ => (w.heap.size ≤ k_)) v0_ r ∧ Below w.heap.size w w' := by
 have HR0 := Aside0.mk hr0
 have HC0 := Aside0.mk hc0
 clear hr0 hc0
 have HR1 := Aside0.mk hr1
 have HC1 := Aside0.mk hc1
 clear hr1 hc1
 have HB := Aside0.mk (Below.refl w.heap.size w)
 have H : (if 0 ≤ (l0.length : Int) then (if ((l0.length : Int) : Int).toNat ≤ 70368744177664 then (N1subtract.l0 k l0 l1 (List.replicate ((l0.length : Int) : Int).toNat 0) 0 (l0.length : Int) 0) else (none)) else (none)) = some r := h
 clear h
 replace H := of_ite H
 obtain ⟨c3, H⟩ := H
 have c3b0 := eq_true c3
 have c3b1 := decide_eq_true c3
 clear c3
 replace H := of_ite H
 obtain ⟨c4, H⟩ := H
 have c4b0 := eq_true c4
 have c4b1 := decide_eq_true c4
 clear c4
 obtain ⟨y264, hy264⟩ : ∃ y_ : List Int, y_ = (List.replicate ((l0.length : Int) : Int).toNat 0) := ⟨_, rfl⟩
 replace H : (N1subtract.l0 k l0 l1 y264 0 (l0.length : Int) 0) = some r := by first | (rw [hy264]; with_reducible exact H) | (have H2_ := (Option.bind_some _ _).symm.trans H; rw [hy264]; with_reducible exact H2_) | (have H2_ := (Option.bind_some _ _).symm.trans H; with_reducible exact H2_) | with_reducible exact H | (rw [hy264]; exact H) | exact H
 have Ny264 := Aside0.mk hy264
 clear hy264
 have H' := Aside0.mk H
 clear H
 go_enter Tryd.func89, Tryd.ntmps89
 go_wp2_with (first | ((with_reducible refine gate_dst (N := 11) rfl ?_); refine Kd.R_make (Kd.int .u32) _ 86 rfl (N := 11) rfl 84 _ _ rfl (l0.length : Int) rfl rfl Tryd.underlying84 (.int .u32 0) 4 info86 rfl (by decide) (by omega) 0 (ok := fun _ => True) (okp := fun _ => True) rfl (fun _ hk => hk) trivial (of_decide_eq_true zq0) (Nat.le_trans (Nat.mul_le_mul_right _ (of_decide_eq_true zq0 : (l0.length : Int).toNat ≤ 70368744177664)) (by omega)) (Below.refl _ _) (Nat.le_refl _) ?_; intro v265 w5 ho6 hb hg_ hnew_; clear hg_ hnew_; (first | rw [← Ny264.out] at ho6 | (simp only [Int.reduceToNat] at ho6; rw [← Ny264.out] at ho6)); have n0_ := Aside0.mk (Kd.R_lower (Kd.R_newM (M := fun k_ => (w.heap.size ≤ k_)) ho6 (below_size zH) (fun k_ h_ => h_)) (below_size zH)); have n1_ := sB hb; revert n0_ n1_; clear HB; intro HO266 HB; clear hb ho6))
 go_loopg [6, 14] k (fun kq v6 v14 w' => ∃ (x5_1 : List Int) (x6_1 : Int) (x14_1 : Int), v6 = .int .u32 x6_1 ∧ v14 = .int .i64 x14_1 ∧ Aside0 (N1subtract.l0 kq l0 l1 x5_1 x6_1 (l0.length : Int) x14_1 = some r) ∧ Aside0 (kq ≤ k) ∧ Aside0 (Kd.R (Kd.int .u32) 86 w' w.heap.size (fun k_ => (w.heap.size ≤ k_)) v265 x5_1) ∧ Aside0 (Below w.heap.size w w'))
 case atStart => exact ⟨(y264), (0), (0), zq1, zq1, H', ⟨Nat.le_refl _⟩, ⟨by (with_reducible repeat (first | apply Kd.R_alloc | apply Kd.R_drewN | apply Kd.R_drew)); exact Kd.R_mono HO266.out (fun _ hk => hk.1)⟩, ⟨zH⟩⟩
 case round =>
  clear H'
  (try clear c1); (try clear p2); (try clear c3); (try clear c3b0); (try clear c3b1); (try clear c4); (try clear c4b0); (try clear c4b1)
  obtain ⟨x5_1, x6_1, x14_1, rfl, rfl, HA, HK1, HO_5, HB⟩ := hrel
  cases gk with
  | zero => exact absurd HA.out (by simp [N1subtract.l0])
  | succ k1 =>
   have H := HA.out
   clear HA
   simp only [N1subtract.l0] at H
   by_cases c7 : x14_1 < (l0.length : Int)
   ·rw [if_pos c7] at H
    have c7b0 := decide_eq_true c7
    clear c7
    by_cases c8 : x14_1 < (l1.length : Int)
    ·rw [if_pos c8] at H
     have c8b0 := decide_eq_true c8
     clear c8
     replace H := of_ite H
     obtain ⟨c9, H⟩ := H
     have c9b0 := decide_eq_true c9
     clear c9
     replace H := of_ite H
     obtain ⟨c10, H⟩ := H
     have c10b0 := decide_eq_true c10
     clear c10
     replace H := Option.bind_eq_some_iff.mp H
     obtain ⟨⟨t269, t270⟩, A110, H⟩ := H
     (try dsimp only at H)
     have A11 := Aside0.mk A110
     clear A110
     replace H := of_ite H
     obtain ⟨c12, H⟩ := H
     have c12b0 := decide_eq_true c12
     clear c12
     obtain ⟨y271, hy271⟩ : ∃ y_ : List Int, y_ = (x5_1.set (x14_1 : Int).toNat t269) := ⟨_, rfl⟩
     replace H : (N1subtract.l0 k1 l0 l1 y271 t270 (l0.length : Int) (wrap64 (x14_1 + 1))) = some r := by first | (rw [hy271]; with_reducible exact H) | (have H2_ := (Option.bind_some _ _).symm.trans H; rw [hy271]; with_reducible exact H2_) | (have H2_ := (Option.bind_some _ _).symm.trans H; with_reducible exact H2_) | with_reducible exact H | (rw [hy271]; exact H) | exact H
     have Ny271 := Aside0.mk hy271
     clear hy271
     have H' := Aside0.mk H
     clear H
     have p267 : 0 ≤ (x14_1 : Int) := of_decide_eq_true zq0
     have q267 : x14_1 < (l1.length : Int) := of_decide_eq_true zq0
     obtain ⟨ad267, e267, hx267_0⟩ := Kd.at_int HR1.out x14_1 p267 q267
     cases e267
     (try replace hx267_0 := (HB.out.cell (World.block_lt_of_cell? w _ hx267_0)).trans hx267_0)
     replace p267 := eq_true p267
     replace q267 := eq_true q267
     have p268 : 0 ≤ (x14_1 : Int) := of_decide_eq_true zq0
     have q268 : x14_1 < (l0.length : Int) := of_decide_eq_true zq0
     obtain ⟨ad268, e268, hx268_0⟩ := Kd.at_int HR0.out x14_1 p268 q268
     cases e268
     (try replace hx268_0 := (HB.out.cell (World.block_lt_of_cell? w _ hx268_0)).trans hx268_0)
     replace p268 := eq_true p268
     replace q268 := eq_true q268
     go_wp2_with (first | (refine goesLA 34 Tryd.func102 #[.int .u32 (rd l0 x14_1), .int .u32 (rd l1 x14_1), .int .u32 x6_1] ?_; (with_reducible refine (bits_Sub32.calls (rd l0 x14_1) (rd l1 x14_1) x6_1 t269 t270 _ A11.out).mono ?_); rintro e w' ⟨rfl, ⟨nd, rfl⟩⟩; refine ⟨_, rfl, ?_⟩; (try (rw [drewN_self wr]; generalize hq_ : World.drewN wr _ = wr; have n0_ : Aside0 (Kd.R (Kd.int .u32) 86 wr w.heap.size (fun k_ => (w.heap.size ≤ k_)) v265 x5_1) := ⟨by rw [← hq_]; exact zq22⟩; have n1_ : Aside0 (Below w.heap.size w wr) := ⟨by rw [← hq_]; exact zH⟩; clear HO_5 HB hq_; have HO_5 := n0_; have HB := n1_; clear n0_ n1_)); have p13 : 0 ≤ (x14_1 : Int) := of_decide_eq_true zq0; have q13 : (x14_1 : Int) < ((x5_1.length : Int) : Int) := of_decide_eq_true zq0; obtain ⟨go13, co13, eo13, gb13, gl13, cl13, HG13⟩ := Kd.R_form HO_5.out (by omega); (first | cases eo13 | (injection eo13 with ea_ en_ ec_; (first | subst ea_ | (injection ea_ with ea_; subst ea_)); subst ec_; clear en_)); have GB13 := Aside0.mk gb13; have GG13 := Aside0.mk HG13; clear gb13 gl13 HG13; obtain ⟨hx13_0, hf13_0⟩ := Kd.R_celln 0 HO_5.out (x14_1 : Int) p13 q13; replace p13 := eq_true p13; replace q13 := eq_true q13; obtain ⟨hy14_, hz14_⟩ := Kd.R_celln 0 HO_5.out (x14_1 : Int) (of_decide_eq_true zq0) (of_decide_eq_true zq0); have HP14 := Kd.R_putg HO_5.out (x14_1 : Int) t269) | ((with_reducible refine gate_store (t := 86) (p := 37) rfl ?_); refine store_event (t := 86) (p := 37) (v := ?vo_w15) (w1 := (wr.setCell ⟨go13, (x14_1 : Int).toNat, none⟩ (.int .u32 t269))) ?hg ?ho ?hn ?hr ?_; (case ho => rfl); (case hg => rfl); (case hn => rfl); (case hr => first | (go_simp; done) | (go_simp; rfl)); intro w15 hw; have hg : wr.grownBy w15 (some go13) := (by rw [hw]; exact HP14.2); have hp_ : Kd.R (Kd.int .u32) 86 w15 w.heap.size (fun k_ => (w.heap.size ≤ k_)) (.slice (some ⟨go13, 0, none⟩) x5_1.length co13) y271 := (by rw [hw, Ny271.out]; exact HP14.1); clear HP14; have n0_ := Aside0.mk (hp_); have n1_ := Aside0.mk ((by rw [hw]; exact below_set (HB.out) GB13.out : Below w.heap.size w w15)); revert n0_ n1_; clear HO_5 HB; intro HO_5 HB; clear hg hw hp_))
     go_roundg k1
     case measure => have := HK1.out; omega
     case rel => exact ⟨(y271), (t270), (wrap64 (x14_1 + 1)), zq1, zq1, H', ⟨by have := HK1.out; omega⟩, ⟨by (with_reducible repeat (first | apply Kd.R_alloc | apply Kd.R_drewN | apply Kd.R_drew)); exact HO_5.out⟩, ⟨zH⟩⟩
    ·rw [if_neg c8] at H
     have c8b0 := decide_eq_false c8
     clear c8
     replace H := of_ite H
     obtain ⟨c16, H⟩ := H
     have c16b0 := decide_eq_true c16
     clear c16
     replace H := of_ite H
     obtain ⟨c17, H⟩ := H
     have c17b0 := decide_eq_true c17
     clear c17
     replace H := Option.bind_eq_some_iff.mp H
     obtain ⟨⟨t273, t274⟩, A180, H⟩ := H
     (try dsimp only at H)
     have A18 := Aside0.mk A180
     clear A180
     replace H := of_ite H
     obtain ⟨c19, H⟩ := H
     have c19b0 := decide_eq_true c19
     clear c19
     obtain ⟨y275, hy275⟩ : ∃ y_ : List Int, y_ = (x5_1.set (x14_1 : Int).toNat t273) := ⟨_, rfl⟩
     replace H : (N1subtract.l0 k1 l0 l1 y275 t274 (l0.length : Int) (wrap64 (x14_1 + 1))) = some r := by first | (rw [hy275]; with_reducible exact H) | (have H2_ := (Option.bind_some _ _).symm.trans H; rw [hy275]; with_reducible exact H2_) | (have H2_ := (Option.bind_some _ _).symm.trans H; with_reducible exact H2_) | with_reducible exact H | (rw [hy275]; exact H) | exact H
     have Ny275 := Aside0.mk hy275
     clear hy275
     have H' := Aside0.mk H
     clear H
     have p272 : 0 ≤ (x14_1 : Int) := of_decide_eq_true zq0
     have q272 : x14_1 < (l0.length : Int) := of_decide_eq_true zq0
     obtain ⟨ad272, e272, hx272_0⟩ := Kd.at_int HR0.out x14_1 p272 q272
     cases e272
     (try replace hx272_0 := (HB.out.cell (World.block_lt_of_cell? w _ hx272_0)).trans hx272_0)
     replace p272 := eq_true p272
     replace q272 := eq_true q272
     go_wp2_with (first | (refine goesLA 34 Tryd.func102 #[.int .u32 (rd l0 x14_1), .int .u32 0, .int .u32 x6_1] ?_; (with_reducible refine (bits_Sub32.calls (rd l0 x14_1) 0 x6_1 t273 t274 _ A18.out).mono ?_); rintro e w' ⟨rfl, ⟨nd, rfl⟩⟩; refine ⟨_, rfl, ?_⟩; (try (rw [drewN_self wr]; generalize hq_ : World.drewN wr _ = wr; have n0_ : Aside0 (Kd.R (Kd.int .u32) 86 wr w.heap.size (fun k_ => (w.heap.size ≤ k_)) v265 x5_1) := ⟨by rw [← hq_]; exact zq22⟩; have n1_ : Aside0 (Below w.heap.size w wr) := ⟨by rw [← hq_]; exact zH⟩; clear HO_5 HB hq_; have HO_5 := n0_; have HB := n1_; clear n0_ n1_)); have p20 : 0 ≤ (x14_1 : Int) := of_decide_eq_true zq0; have q20 : (x14_1 : Int) < ((x5_1.length : Int) : Int) := of_decide_eq_true zq0; obtain ⟨go20, co20, eo20, gb20, gl20, cl20, HG20⟩ := Kd.R_form HO_5.out (by omega); (first | cases eo20 | (injection eo20 with ea_ en_ ec_; (first | subst ea_ | (injection ea_ with ea_; subst ea_)); subst ec_; clear en_)); have GB20 := Aside0.mk gb20; have GG20 := Aside0.mk HG20; clear gb20 gl20 HG20; obtain ⟨hx20_0, hf20_0⟩ := Kd.R_celln 0 HO_5.out (x14_1 : Int) p20 q20; replace p20 := eq_true p20; replace q20 := eq_true q20; obtain ⟨hy21_, hz21_⟩ := Kd.R_celln 0 HO_5.out (x14_1 : Int) (of_decide_eq_true zq0) (of_decide_eq_true zq0); have HP21 := Kd.R_putg HO_5.out (x14_1 : Int) t273) | ((with_reducible refine gate_store (t := 86) (p := 37) rfl ?_); refine store_event (t := 86) (p := 37) (v := ?vo_w22) (w1 := (wr.setCell ⟨go20, (x14_1 : Int).toNat, none⟩ (.int .u32 t273))) ?hg ?ho ?hn ?hr ?_; (case ho => rfl); (case hg => rfl); (case hn => rfl); (case hr => first | (go_simp; done) | (go_simp; rfl)); intro w22 hw; have hg : wr.grownBy w22 (some go20) := (by rw [hw]; exact HP21.2); have hp_ : Kd.R (Kd.int .u32) 86 w22 w.heap.size (fun k_ => (w.heap.size ≤ k_)) (.slice (some ⟨go20, 0, none⟩) x5_1.length co20) y275 := (by rw [hw, Ny275.out]; exact HP21.1); clear HP21; have n0_ := Aside0.mk (hp_); have n1_ := Aside0.mk ((by rw [hw]; exact below_set (HB.out) GB20.out : Below w.heap.size w w22)); revert n0_ n1_; clear HO_5 HB; intro HO_5 HB; clear hg hw hp_))
     go_roundg k1
     case measure => have := HK1.out; omega
     case rel => exact ⟨(y275), (t274), (wrap64 (x14_1 + 1)), zq1, zq1, H', ⟨by have := HK1.out; omega⟩, ⟨by (with_reducible repeat (first | apply Kd.R_alloc | apply Kd.R_drewN | apply Kd.R_drew)); exact HO_5.out⟩, ⟨zH⟩⟩
   ·rw [if_neg c7] at H
    have c7b0 := decide_eq_false c7
    clear c7
    replace H := Option.bind_eq_some_iff.mp H
    obtain ⟨t276, A230, H⟩ := H
    (try dsimp only at H)
    have A23 := Aside0.mk A230
    clear A230
    obtain rfl := Option.some.inj H
    obtain ⟨Ao24, co24, eo24⟩ := Kd.R_slice HO_5.out
    subst eo24
    go_wp2_with (first | (refine goesLA 40 Tryd.func86 #[.slice Ao24 x5_1.length co24] ?_; (with_reducible refine (N1limbs_trim.calls k1 (fun k_ => some k_ = (.slice Ao24 x5_1.length co24 : Value).ownBlock) _ _ x5_1 t276 _ ?side1 A23.out).mono ?_); (case side1 => exact Kd.R_V (Kd.R_tight rfl (HO_5.out))); rintro e w25 ⟨v277, rfl, ho0, hb⟩; refine ⟨_, rfl, ?_⟩; have n0_ := Aside0.mk (Kd.R_below zq22 hb); have n1_ := Aside0.mk (Kd.V_lower (Kd.V_mono (ok' := fun k_ => (w.heap.size ≤ k_)) ho0 (fun k_ hk_ => Or.elim hk_ (fun hs_ => ((HO_5.out).1 k_ hs_.symm)) (fun hn_ => (Nat.le_trans (below_size zH) hn_)))) (below_size zH)); have n2_ := sB hb; revert n0_ n1_ n2_; clear HO_5 HB; intro HO_5 HO278 HB; (try clear hb); (try clear hb2); (try clear hk); (try clear hi); (try clear ho0)))
    go_ret
    exact ⟨_, zE, by (with_reducible repeat (first | apply Kd.V_alloc | apply Kd.V_drewN | apply Kd.V_drew)); exact HO278.out, zH⟩
def N1Subtract.f (k : Nat) (a0 : ByteArray) (a1 : ByteArray) : Option (ByteArray × Bool) := (N1parse.f k a0).bind fun t279 => ((N1parse.f k a1).bind fun t282 => ((N1compare.f k t279 t282).bind fun t285 => (if t285 < 0 then (some ((⟨#[]⟩ : ByteArray), false)) else ((N1subtract.f k t279 t282).bind fun t286 => ((N1limbs_text.f k t286).bind fun t289 => (some (t289, true)))))))
set_option maxHeartbeats 8000000 in
set_option maxRecDepth 100000 in
theorem N1Subtract.calls (k : Nat) (a0 : ByteArray) (a1 : ByteArray) (r1 : ByteArray) (r2 : Bool) (w : World) (h : N1Subtract.f k a0 a1 = some (r1, r2)) :
 Calls Tryd.prog 69 #[.string a0, .string a1] w fun e w' => e = .returned (.tuple #[.string r1, .bool r2]) ∧ Below w.heap.size w w' := by
 have HB := Aside0.mk (Below.refl w.heap.size w)
 have H : ((N1parse.f k a0).bind fun t279 => ((N1parse.f k a1).bind fun t282 => ((N1compare.f k t279 t282).bind fun t285 => (if t285 < 0 then (some ((⟨#[]⟩ : ByteArray), false)) else ((N1subtract.f k t279 t282).bind fun t286 => ((N1limbs_text.f k t286).bind fun t289 => (some (t289, true)))))))) = some (r1, r2) := h
 clear h
 replace H := Option.bind_eq_some_iff.mp H
 obtain ⟨t279, A30, H⟩ := H
 (try dsimp only at H)
 have A3 := Aside0.mk A30
 clear A30
 replace H := Option.bind_eq_some_iff.mp H
 obtain ⟨t282, A40, H⟩ := H
 (try dsimp only at H)
 have A4 := Aside0.mk A40
 clear A40
 replace H := Option.bind_eq_some_iff.mp H
 obtain ⟨t285, A50, H⟩ := H
 (try dsimp only at H)
 have A5 := Aside0.mk A50
 clear A50
 by_cases c6 : t285 < 0
 ·rw [if_pos c6] at H
  have c6b0 := decide_eq_true c6
  clear c6
  simp only [Option.some.injEq, Prod.mk.injEq] at H
  obtain ⟨rfl, rfl⟩ := H
  go_enter Tryd.func69, Tryd.ntmps69
  go_wp2_with (first | (refine goesLA 9 Tryd.func66 #[.string a0] ?_; (with_reducible refine (N1parse.calls k a0 t279 _ A3.out).mono ?_); rintro e w7 ⟨v280, rfl, ho0, hb⟩; refine ⟨_, rfl, ?_⟩; have n0_ := Aside0.mk (Kd.V_lower (Kd.V_mono (ok' := fun k_ => True) ho0 (fun k_ hk_ => trivial)) (below_size zH)); have n1_ := sB hb; revert n0_ n1_; clear HB; intro HO281 HB; (try clear hb); (try clear hb2); (try clear hk); (try clear hi); (try clear ho0)) | (refine goesLA 11 Tryd.func66 #[.string a1] ?_; (with_reducible refine (N1parse.calls k a1 t282 _ A4.out).mono ?_); rintro e w8 ⟨v283, rfl, ho0, hb⟩; refine ⟨_, rfl, ?_⟩; have n0_ := Aside0.mk (Kd.V_below zq27 hb); have n1_ := Aside0.mk (Kd.V_lower (Kd.V_mono (ok' := fun k_ => True) ho0 (fun k_ hk_ => trivial)) (below_size zH)); have n2_ := sB hb; revert n0_ n1_ n2_; clear HO281 HB; intro HO281 HO284 HB; (try clear hb); (try clear hb2); (try clear hk); (try clear hi); (try clear ho0); obtain ⟨Ao9, co9, eo9⟩ := Kd.V_slice HO281.out; subst eo9; obtain ⟨Ao10, co10, eo10⟩ := Kd.V_slice HO284.out; subst eo10) | (refine goesLA 14 Tryd.func88 #[.slice Ao9 t279.length co9, .slice Ao10 t282.length co10] ?_; (with_reducible refine (N1compare.calls k _ _ t279 _ _ t282 t285 _ ?side1 ?side2 ?side3 ?side4 A5.out).mono ?_); (case side1 => repeat (first | exact (Kd.V_reads' HO281.out).2.2 | (with_reducible refine Kd.C_alloc ?_ _) | (with_reducible refine Kd.C_drewN ?_ _) | (with_reducible refine Kd.C_drew ?_))); (case side2 => exact (Kd.V_reads' HO281.out).2.1); (case side3 => repeat (first | exact (Kd.V_reads' HO284.out).2.2 | (with_reducible refine Kd.C_alloc ?_ _) | (with_reducible refine Kd.C_drewN ?_ _) | (with_reducible refine Kd.C_drew ?_))); (case side4 => exact (Kd.V_reads' HO284.out).2.1); rintro e w' ⟨rfl, ⟨nd, rfl⟩⟩; refine ⟨_, rfl, ?_⟩))
  go_ret2
  exact ⟨zE, zH⟩
 ·rw [if_neg c6] at H
  have c6b0 := decide_eq_false c6
  clear c6
  replace H := Option.bind_eq_some_iff.mp H
  obtain ⟨t286, A110, H⟩ := H
  (try dsimp only at H)
  have A11 := Aside0.mk A110
  clear A110
  replace H := Option.bind_eq_some_iff.mp H
  obtain ⟨t289, A120, H⟩ := H
  (try dsimp only at H)
  have A12 := Aside0.mk A120
  clear A120
  simp only [Option.some.injEq, Prod.mk.injEq] at H
  obtain ⟨rfl, rfl⟩ := H
  go_enter Tryd.func69, Tryd.ntmps69
  go_wp2_with (first | (refine goesLA 9 Tryd.func66 #[.string a0] ?_; (with_reducible refine (N1parse.calls k a0 t279 _ A3.out).mono ?_); rintro e w13 ⟨v280, rfl, ho0, hb⟩; refine ⟨_, rfl, ?_⟩; have n0_ := Aside0.mk (Kd.V_lower (Kd.V_mono (ok' := fun k_ => True) ho0 (fun k_ hk_ => trivial)) (below_size zH)); have n1_ := sB hb; revert n0_ n1_; clear HB; intro HO281 HB; (try clear hb); (try clear hb2); (try clear hk); (try clear hi); (try clear ho0)) | (refine goesLA 11 Tryd.func66 #[.string a1] ?_; (with_reducible refine (N1parse.calls k a1 t282 _ A4.out).mono ?_); rintro e w14 ⟨v283, rfl, ho0, hb⟩; refine ⟨_, rfl, ?_⟩; have n0_ := Aside0.mk (Kd.V_below zq27 hb); have n1_ := Aside0.mk (Kd.V_lower (Kd.V_mono (ok' := fun k_ => True) ho0 (fun k_ hk_ => trivial)) (below_size zH)); have n2_ := sB hb; revert n0_ n1_ n2_; clear HO281 HB; intro HO281 HO284 HB; (try clear hb); (try clear hb2); (try clear hk); (try clear hi); (try clear ho0); obtain ⟨Ao15, co15, eo15⟩ := Kd.V_slice HO281.out; subst eo15; obtain ⟨Ao16, co16, eo16⟩ := Kd.V_slice HO284.out; subst eo16) | (refine goesLA 14 Tryd.func88 #[.slice Ao15 t279.length co15, .slice Ao16 t282.length co16] ?_; (with_reducible refine (N1compare.calls k _ _ t279 _ _ t282 t285 _ ?side1 ?side2 ?side3 ?side4 A5.out).mono ?_); (case side1 => repeat (first | exact (Kd.V_reads' HO281.out).2.2 | (with_reducible refine Kd.C_alloc ?_ _) | (with_reducible refine Kd.C_drewN ?_ _) | (with_reducible refine Kd.C_drew ?_))); (case side2 => exact (Kd.V_reads' HO281.out).2.1); (case side3 => repeat (first | exact (Kd.V_reads' HO284.out).2.2 | (with_reducible refine Kd.C_alloc ?_ _) | (with_reducible refine Kd.C_drewN ?_ _) | (with_reducible refine Kd.C_drew ?_))); (case side4 => exact (Kd.V_reads' HO284.out).2.1); rintro e w' ⟨rfl, ⟨nd, rfl⟩⟩; refine ⟨_, rfl, ?_⟩) | (refine goesLA 18 Tryd.func89 #[.slice Ao15 t279.length co15, .slice Ao16 t282.length co16] ?_; (with_reducible refine (N1subtract.calls k _ _ t279 _ _ t282 t286 _ ?side1 ?side2 ?side3 ?side4 A11.out).mono ?_); (case side1 => repeat (first | exact (Kd.V_reads' HO281.out).2.2 | (with_reducible refine Kd.C_alloc ?_ _) | (with_reducible refine Kd.C_drewN ?_ _) | (with_reducible refine Kd.C_drew ?_))); (case side2 => exact (Kd.V_reads' HO281.out).2.1); (case side3 => repeat (first | exact (Kd.V_reads' HO284.out).2.2 | (with_reducible refine Kd.C_alloc ?_ _) | (with_reducible refine Kd.C_drewN ?_ _) | (with_reducible refine Kd.C_drew ?_))); (case side4 => exact (Kd.V_reads' HO284.out).2.1); rintro e w17 ⟨v287, rfl, ho0, hb⟩; refine ⟨_, rfl, ?_⟩; have n0_ := Aside0.mk (Kd.V_below zq27 hb); have n1_ := Aside0.mk (Kd.V_below (by (with_reducible repeat (first | apply Kd.V_alloc | apply Kd.V_drewN | apply Kd.V_drew)); exact HO284.out) hb); have n2_ := Aside0.mk (Kd.V_lower (Kd.V_mono (ok' := fun k_ => True) ho0 (fun k_ hk_ => trivial)) (below_size zH)); have n3_ := sB hb; revert n0_ n1_ n2_ n3_; clear HO281 HO284 HB; intro HO281 HO284 HO288 HB; (try clear hb); (try clear hb2); (try clear hk); (try clear hi); (try clear ho0); obtain ⟨Ao18, co18, eo18⟩ := Kd.V_slice HO288.out; subst eo18) | (refine goesLA 19 Tryd.func67 #[.slice Ao18 t286.length co18] ?_; (with_reducible refine (N1limbs_text.calls k _ _ t286 t289 _ ?side1 ?side2 A12.out).mono ?_); (case side1 => repeat (first | exact (Kd.V_reads' HO288.out).2.2 | (with_reducible refine Kd.C_alloc ?_ _) | (with_reducible refine Kd.C_drewN ?_ _) | (with_reducible refine Kd.C_drew ?_))); (case side2 => exact (Kd.V_reads' HO288.out).2.1); rintro e w19 ⟨rfl, hb⟩; refine ⟨_, rfl, ?_⟩; have n0_ := Aside0.mk (Kd.V_below zq27 hb); have n1_ := Aside0.mk (Kd.V_below (by (with_reducible repeat (first | apply Kd.V_alloc | apply Kd.V_drewN | apply Kd.V_drew)); exact HO284.out) hb); have n2_ := Aside0.mk (Kd.V_below (by (with_reducible repeat (first | apply Kd.V_alloc | apply Kd.V_drewN | apply Kd.V_drew)); exact HO288.out) hb); have n3_ := sB hb; revert n0_ n1_ n2_ n3_; clear HO281 HO284 HO288 HB; intro HO281 HO284 HO288 HB; (try clear hb); (try clear hb2); (try clear hk); (try clear hi)))
  go_ret2
  exact ⟨zE, zH⟩
def N1FromUint.f (k : Nat) (a0 : Int) : Option (ByteArray) := (N1limbs_text.f k (([(a0) % 4294967296, (a0 / 4294967296) % 4294967296] : List Int))).bind fun t293 => (some t293)
set_option maxHeartbeats 8000000 in
set_option maxRecDepth 100000 in
theorem N1FromUint.calls (k : Nat) (a0 : Int) (r : ByteArray) (w : World) (h : N1FromUint.f k a0 = some r) :
 Calls Tryd.prog 71 #[.int .u64 a0] w fun e w' => e = .returned (.string r) ∧ Below w.heap.size w w' := by
 have HB := Aside0.mk (Below.refl w.heap.size w)
 have H : ((N1limbs_text.f k (([(a0) % 4294967296, (a0 / 4294967296) % 4294967296] : List Int))).bind fun t293 => (some t293)) = some r := h
 clear h
 obtain ⟨y290, hy290⟩ : ∃ y_ : List Int, y_ = (([(a0) % 4294967296, (a0 / 4294967296) % 4294967296] : List Int)) := ⟨_, rfl⟩
 replace H : ((N1limbs_text.f k y290).bind fun t293 => (some t293)) = some r := by first | (rw [hy290]; with_reducible exact H) | (have H2_ := (Option.bind_some _ _).symm.trans H; rw [hy290]; with_reducible exact H2_) | (have H2_ := (Option.bind_some _ _).symm.trans H; with_reducible exact H2_) | with_reducible exact H | (rw [hy290]; exact H) | exact H
 have Ny290 := Aside0.mk hy290
 clear hy290
 replace H := Option.bind_eq_some_iff.mp H
 obtain ⟨t293, A20, H⟩ := H
 (try dsimp only at H)
 have A2 := Aside0.mk A20
 clear A20
 obtain rfl := Option.some.inj H
 go_enter Tryd.func71, Tryd.ntmps71
 go_wp2_with (first | ((with_reducible refine gate_dst (N := 8) rfl ?_); refine Kd.R_lit (Kd.int .u32) _ 86 ?hg (N := 8) ?hd (xs := ([(a0) % 4294967296, (a0 / 4294967296) % 4294967296] : List Int)) (inner := [.int .u32 ((a0) % 4294967296), .int .u32 ((a0 / 4294967296) % 4294967296)]) (ok := fun _ => True) (okp := fun _ => True) ?hr ?hp (fun _ hk => hk) trivial (Below.refl _ _) (Nat.le_refl _) (by simp) ?_; (case hd => rfl); (case hg => rfl); (case hr => first | (go_simp; done) | (go_simp; rfl)); (case hp => exact (Reps.one (show Kd.M (Kd.int .u32) _ _ _ ((a0) % 4294967296) [.int .u32 ((a0) % 4294967296)] from rfl) (Reps.one (show Kd.M (Kd.int .u32) _ _ _ ((a0 / 4294967296) % 4294967296) [.int .u32 ((a0 / 4294967296) % 4294967296)] from rfl) (Reps.none _ _)))); intro v291 w3 ho4 hb hg_ hnew_; clear hg_ hnew_; (first | rw [← Ny290.out] at ho4 | (simp only [Int.reduceToNat] at ho4; rw [← Ny290.out] at ho4)); have n0_ := Aside0.mk (Kd.R_lower ho4 (below_size zH)); have n1_ := sB hb; revert n0_ n1_; clear HB; intro HO292 HB; clear hb ho4; obtain ⟨Ao5, co5, eo5⟩ := Kd.R_slice HO292.out; subst eo5) | (refine goesLA 9 Tryd.func67 #[.slice Ao5 y290.length co5] ?_; (with_reducible refine (N1limbs_text.calls k _ _ y290 t293 _ ?side1 ?side2 A2.out).mono ?_); (case side1 => repeat (first | exact (Kd.R_reads' HO292.out).2.2 | (with_reducible refine Kd.C_alloc ?_ _) | (with_reducible refine Kd.C_drewN ?_ _) | (with_reducible refine Kd.C_drew ?_))); (case side2 => exact (Kd.R_reads' HO292.out).2.1); rintro e w6 ⟨rfl, hb⟩; refine ⟨_, rfl, ?_⟩; have n0_ := Aside0.mk (Kd.R_below (by (with_reducible repeat (first | apply Kd.R_alloc | apply Kd.R_drewN | apply Kd.R_drew)); exact HO292.out) hb); have n1_ := sB hb; revert n0_ n1_; clear HO292 HB; intro HO292 HB; (try clear hb); (try clear hb2); (try clear hk); (try clear hi)))
 go_ret
 exact ⟨zE, zH⟩
end Go.Proofs.YtggfilmdfpmbmaaDoor.QN
end
section
namespace Go.Proofs.YtggfilmdfpmbmaaDoor.QN
open Go.RowKit Go.Proofs.YtggfilmdfpmbmaaDoorW.PrintWords Go.Proofs.YtggfilmdfpmbmaaDoorW.PrintLast Go.Proofs.YtggfilmdfpmbmaaDoorW.PrintMore
attribute [local go_sem] max2_int min2_int max_two min_two max_three min_three max_four min_four   -- for this text's walks alone
set_option linter.unusedVariables false
set_option linter.unusedSimpArgs false
mutual
def N1Multiply.l0 : Nat → List Int → List Int → List Int → Int → Int → Option (ByteArray)
 | 0, _, _, _, _, _ => none
 | k + 1, x6, x7, x24, x25, x26 => if x26 < x25 then (if 0 ≤ x26 then (if x26 < (x24.length : Int) then (N1Multiply.l1 k x6 x7 x26 (rd x24 x26) 0 x24 x25 x26 x6 (x6.length : Int) 0) else (none)) else (none)) else ((N1limbs_text.f k x7).bind fun t303 => (some t303))
def N1Multiply.l1 : Nat → List Int → List Int → Int → Int → Int → List Int → Int → Int → List Int → Int → Int → Option (ByteArray)
 | 0, _, _, _, _, _, _, _, _, _, _, _ => none
 | k + 1, x6, x7, x8, x9, x10, x24, x25, x26, x31, x32, x33 => if x33 < x32 then (if 0 ≤ x33 then (if x33 < (x31.length : Int) then (if 0 ≤ (wrap64 (x8 + x33)) then (if (wrap64 (x8 + x33)) < (x7.length : Int) then (N1Multiply.l1 k x6 (x7.set ((wrap64 (x8 + x33)) : Int).toNat ((IntKind.u64.wrap ((IntKind.u64.wrap ((IntKind.u64.wrap ((IntKind.u64.wrap (x9)) * (IntKind.u64.wrap (rd x31 x33)))) + (IntKind.u64.wrap (rd x7 (wrap64 (x8 + x33)))))) + x10)) % 4294967296)) x8 x9 ((IntKind.u64.wrap ((IntKind.u64.wrap ((IntKind.u64.wrap ((IntKind.u64.wrap (x9)) * (IntKind.u64.wrap (rd x31 x33)))) + (IntKind.u64.wrap (rd x7 (wrap64 (x8 + x33)))))) + x10)) / 4294967296) x24 x25 x26 x31 x32 (wrap64 (x33 + 1))) else (none)) else (none)) else (none)) else (none)) else (if 0 ≤ (wrap64 (x8 + (x6.length : Int))) then (if (wrap64 (x8 + (x6.length : Int))) < (x7.length : Int) then (N1Multiply.l0 k x6 (x7.set ((wrap64 (x8 + (x6.length : Int))) : Int).toNat ((x10) % 4294967296)) x24 x25 (wrap64 (x26 + 1))) else (none)) else (none))
end
def N1Multiply.f (k : Nat) (a0 : ByteArray) (a1 : ByteArray) : Option (ByteArray) := (N1parse.f k a0).bind fun t294 => ((N1parse.f k a1).bind fun t297 => (if 0 ≤ (wrap64 ((t294.length : Int) + (t297.length : Int))) then (if (wrap64 ((t294.length : Int) + (t297.length : Int)) : Int).toNat ≤ 70368744177664 then (N1Multiply.l0 k t297 (List.replicate (wrap64 ((t294.length : Int) + (t297.length : Int)) : Int).toNat 0) t294 (t294.length : Int) 0) else (none)) else (none)))
set_option maxHeartbeats 8000000 in
set_option maxRecDepth 100000 in
theorem N1Multiply.calls (k : Nat) (a0 : ByteArray) (a1 : ByteArray) (r : ByteArray) (w : World) (h : N1Multiply.f k a0 a1 = some r) :
 Calls Tryd.prog 43 #[.string a0, .string a1] w fun e w' => e = .returned (.string r) ∧ Below w.heap.size w w' := by
 have HB := Aside0.mk (Below.refl w.heap.size w)
 have H : ((N1parse.f k a0).bind fun t294 => ((N1parse.f k a1).bind fun t297 => (if 0 ≤ (wrap64 ((t294.length : Int) + (t297.length : Int))) then (if (wrap64 ((t294.length : Int) + (t297.length : Int)) : Int).toNat ≤ 70368744177664 then (N1Multiply.l0 k t297 (List.replicate (wrap64 ((t294.length : Int) + (t297.length : Int)) : Int).toNat 0) t294 (t294.length : Int) 0) else (none)) else (none)))) = some r := h
 clear h
 replace H := Option.bind_eq_some_iff.mp H
 obtain ⟨t294, A30, H⟩ := H
 (try dsimp only at H)
 have A3 := Aside0.mk A30
 clear A30
 replace H := Option.bind_eq_some_iff.mp H
 obtain ⟨t297, A40, H⟩ := H
 (try dsimp only at H)
 have A4 := Aside0.mk A40
 clear A40
 obtain ⟨ji5, hji5⟩ : ∃ j_ : Int, (wrap64 ((t294.length : Int) + (t297.length : Int))) = j_ := ⟨_, rfl⟩
 first | rw [hji5] at H | simp only [hji5] at H
 (try rw [hji5] at A3)
 (try rw [hji5] at A4)
 have hji5w : (IntKind.i64.wrap ((t294.length : Int) + (t297.length : Int))) = ji5 := (i64_w _).trans hji5
 replace H := of_ite H
 obtain ⟨c6, H⟩ := H
 have c6b0 := eq_true c6
 have c6b1 := decide_eq_true c6
 clear c6
 replace H := of_ite H
 obtain ⟨c7, H⟩ := H
 have c7b0 := eq_true c7
 have c7b1 := decide_eq_true c7
 clear c7
 obtain ⟨y300, hy300⟩ : ∃ y_ : List Int, y_ = (List.replicate (ji5 : Int).toNat 0) := ⟨_, rfl⟩
 replace H : (N1Multiply.l0 k t297 y300 t294 (t294.length : Int) 0) = some r := by first | (rw [hy300]; with_reducible exact H) | (have H2_ := (Option.bind_some _ _).symm.trans H; rw [hy300]; with_reducible exact H2_) | (have H2_ := (Option.bind_some _ _).symm.trans H; with_reducible exact H2_) | with_reducible exact H | (rw [hy300]; exact H) | exact H
 have Ny300 := Aside0.mk hy300
 clear hy300
 have H' := Aside0.mk H
 clear H
 go_enter Tryd.func43, Tryd.ntmps43
 go_wp2_with (first | (refine goesLA 15 Tryd.func66 #[.string a0] ?_; (with_reducible refine (N1parse.calls k a0 t294 _ A3.out).mono ?_); rintro e w8 ⟨v295, rfl, ho0, hb⟩; refine ⟨_, rfl, ?_⟩; have n0_ := Aside0.mk (Kd.V_lower (Kd.V_mono (ok' := fun k_ => True) ho0 (fun k_ hk_ => trivial)) (below_size zH)); have n1_ := sB hb; revert n0_ n1_; clear HB; intro HO296 HB; (try clear hb); (try clear hb2); (try clear hk); (try clear hi); (try clear ho0)) | (refine goesLA 17 Tryd.func66 #[.string a1] ?_; (with_reducible refine (N1parse.calls k a1 t297 _ A4.out).mono ?_); rintro e w9 ⟨v298, rfl, ho0, hb⟩; refine ⟨_, rfl, ?_⟩; have n0_ := Aside0.mk (Kd.V_below (by (with_reducible repeat (first | apply Kd.V_alloc | apply Kd.V_drewN | apply Kd.V_drew)); exact HO296.out) hb); have n1_ := Aside0.mk (Kd.V_lower (Kd.V_mono (ok' := fun k_ => True) ho0 (fun k_ hk_ => trivial)) (below_size zH)); have n2_ := sB hb; revert n0_ n1_ n2_; clear HO296 HB; intro HO296 HO299 HB; (try clear hb); (try clear hb2); (try clear hk); (try clear hi); (try clear ho0); obtain ⟨Ao10, co10, eo10⟩ := Kd.V_slice HO296.out; subst eo10; obtain ⟨Ao11, co11, eo11⟩ := Kd.V_slice HO299.out; subst eo11) | ((with_reducible refine gate_dst (N := 23) rfl ?_); refine Kd.R_make (Kd.int .u32) _ 86 rfl (N := 23) rfl 84 _ _ rfl ji5 rfl rfl Tryd.underlying84 (.int .u32 0) 4 info86 rfl (by decide) (by omega) 0 (ok := fun _ => True) (okp := fun _ => True) rfl (fun _ hk => hk) trivial (of_decide_eq_true zq0) (Nat.le_trans (Nat.mul_le_mul_right _ (of_decide_eq_true zq0 : ji5.toNat ≤ 70368744177664)) (by omega)) (Below.refl _ _) (Nat.le_refl _) ?_; intro v301 w12 ho13 hb hg_ hnew_; clear hg_ hnew_; (first | rw [← Ny300.out] at ho13 | (simp only [Int.reduceToNat] at ho13; rw [← Ny300.out] at ho13)); have n0_ := Aside0.mk (Kd.V_elder' (by (with_reducible repeat (first | apply Kd.V_alloc | apply Kd.V_drewN | apply Kd.V_drew)); exact HO296.out) (Kd.R_base ho13) hb); have n1_ := Aside0.mk (Kd.V_elder' (by (with_reducible repeat (first | apply Kd.V_alloc | apply Kd.V_drewN | apply Kd.V_drew)); exact HO299.out) (Kd.R_base ho13) hb); have n2_ := Aside0.mk (Kd.R_lower ho13 (below_size zH)); have n3_ := sB hb; revert n0_ n1_ n2_ n3_; clear HO296 HO299 HB; intro HO296 HO299 HO302 HB; clear hb ho13))
 go_loopg [26] k (fun kq v26 w' => ∃ (x7_1 : List Int) (x26_1 : Int), v26 = .int .i64 x26_1 ∧ Aside0 (N1Multiply.l0 kq t297 x7_1 t294 (t294.length : Int) x26_1 = some r) ∧ Aside0 (kq ≤ k) ∧ Aside0 (Kd.V (Kd.int .u32) 86 w' w.heap.size (fun k_ => some k_ ≠ (v301 : Value).ownBlock) (.slice Ao11 t297.length co11) t297) ∧ Aside0 (Kd.R (Kd.int .u32) 86 w' w.heap.size (fun _ => True) v301 x7_1) ∧ Aside0 (Kd.V (Kd.int .u32) 86 w' w.heap.size (fun k_ => some k_ ≠ (v301 : Value).ownBlock) (.slice Ao10 t294.length co10) t294) ∧ Aside0 (Below w.heap.size w w'))
 case atStart => exact ⟨(y300), (0), zq1, H', ⟨Nat.le_refl _⟩, ⟨by (with_reducible repeat (first | apply Kd.V_alloc | apply Kd.V_drewN | apply Kd.V_drew)); exact Kd.V_mono HO299.out (fun _ hk => hk.2)⟩, ⟨by (with_reducible repeat (first | apply Kd.R_alloc | apply Kd.R_drewN | apply Kd.R_drew)); exact HO302.out⟩, ⟨by (with_reducible repeat (first | apply Kd.V_alloc | apply Kd.V_drewN | apply Kd.V_drew)); exact Kd.V_mono HO296.out (fun _ hk => hk.2)⟩, ⟨zH⟩⟩
 case round =>
  clear H'
  (try clear p2); (try clear c4); (try clear c6); (try clear c6b0); (try clear c6b1); (try clear p6); (try clear c7); (try clear c7b0); (try clear c7b1)
  obtain ⟨x7_1, x26_1, rfl, HA, HK1, HO_6, HO_7, HO_24, HB⟩ := hrel
  cases gk with
  | zero => exact absurd HA.out (by simp [N1Multiply.l0])
  | succ k1 =>
   have H := HA.out
   clear HA
   simp only [N1Multiply.l0] at H
   by_cases c14 : x26_1 < (t294.length : Int)
   ·rw [if_pos c14] at H
    have c14b0 := decide_eq_true c14
    clear c14
    replace H := of_ite H
    obtain ⟨c15, H⟩ := H
    have c15b0 := decide_eq_true c15
    clear c15
    replace H := of_ite H
    obtain ⟨c16, H⟩ := H
    have c16b0 := decide_eq_true c16
    clear c16
    have H' := Aside0.mk H
    clear H
    have p304 : 0 ≤ (x26_1 : Int) := of_decide_eq_true zq0
    have q304 : x26_1 < (t294.length : Int) := of_decide_eq_true zq0
    obtain ⟨ad304, e304, hx304_0⟩ := Kd.at_int (Kd.V_reads' HO_24.out).2.2 x26_1 p304 q304
    cases e304
    replace p304 := eq_true p304
    replace q304 := eq_true q304
    go_wp2
    go_loopg [10, 33] k1 (fun kq v10 v33 w' => ∃ (x7_2 : List Int) (x10_2 : Int) (x33_2 : Int), v10 = .int .u64 x10_2 ∧ v33 = .int .i64 x33_2 ∧ Aside0 (N1Multiply.l1 kq t297 x7_2 x26_1 (rd t294 x26_1) x10_2 t294 (t294.length : Int) x26_1 t297 (t297.length : Int) x33_2 = some r) ∧ Aside0 (kq ≤ k1) ∧ Aside0 (Kd.V (Kd.int .u32) 86 w' w.heap.size (fun k_ => some k_ ≠ (v301 : Value).ownBlock) (.slice Ao11 t297.length co11) t297) ∧ Aside0 (Kd.R (Kd.int .u32) 86 w' w.heap.size (fun _ => True) v301 x7_2) ∧ Aside0 (Kd.V (Kd.int .u32) 86 w' w.heap.size (fun k_ => some k_ ≠ (v301 : Value).ownBlock) (.slice (some ad304) t294.length co10) t294) ∧ Aside0 (Kd.V (Kd.int .u32) 86 w' w.heap.size (fun k_ => some k_ ≠ (v301 : Value).ownBlock) (.slice Ao11 t297.length co11) t297) ∧ Aside0 (Below w.heap.size w w'))
    case atStart => exact ⟨(x7_1), (0), (0), zq1, zq1, H', ⟨Nat.le_refl _⟩, ⟨by (with_reducible repeat (first | apply Kd.V_alloc | apply Kd.V_drewN | apply Kd.V_drew)); exact HO_6.out⟩, ⟨by (with_reducible repeat (first | apply Kd.R_alloc | apply Kd.R_drewN | apply Kd.R_drew)); exact HO_7.out⟩, ⟨by (with_reducible repeat (first | apply Kd.V_alloc | apply Kd.V_drewN | apply Kd.V_drew)); exact HO_24.out⟩, ⟨by (with_reducible repeat (first | apply Kd.V_alloc | apply Kd.V_drewN | apply Kd.V_drew)); exact HO_6.out⟩, ⟨zH⟩⟩
    case round =>
     clear H'
     (try clear c1); (try clear p2); (try clear p3); (try clear q3); (try clear hx3); (try clear c4); (try clear c6); (try clear c6b0); (try clear c6b1); (try clear p6); (try clear c7); (try clear c7b0); (try clear c7b1); (try clear c14); (try clear c14b0); (try clear c15); (try clear c15b0); (try clear c16); (try clear c16b0); (try clear hx304_0); (try clear p2); (try clear p304); (try clear p6); (try clear q304)
     obtain ⟨x7_2, x10_2, x33_2, rfl, rfl, HA, HK2, HO_6, HO_7, HO_24, HO_31, HB⟩ := hrel
     cases gk with
     | zero => exact absurd HA.out (by simp [N1Multiply.l1])
     | succ k2 =>
      have H := HA.out
      clear HA
      simp only [N1Multiply.l1] at H
      by_cases c17 : x33_2 < (t297.length : Int)
      ·rw [if_pos c17] at H
       have c17b0 := decide_eq_true c17
       clear c17
       replace H := of_ite H
       obtain ⟨c18, H⟩ := H
       have c18b0 := decide_eq_true c18
       clear c18
       replace H := of_ite H
       obtain ⟨c19, H⟩ := H
       have c19b0 := decide_eq_true c19
       clear c19
       obtain ⟨ji20, hji20⟩ : ∃ j_ : Int, (wrap64 (x26_1 + x33_2)) = j_ := ⟨_, rfl⟩
       first | rw [hji20] at H | simp only [hji20] at H
       have hji20w : (IntKind.i64.wrap (x26_1 + x33_2)) = ji20 := (i64_w _).trans hji20
       replace H := of_ite H
       obtain ⟨c21, H⟩ := H
       have c21b0 := decide_eq_true c21
       clear c21
       replace H := of_ite H
       obtain ⟨c22, H⟩ := H
       have c22b0 := decide_eq_true c22
       clear c22
       obtain ⟨y307, hy307⟩ : ∃ y_ : List Int, y_ = (x7_2.set ((ji20) : Int).toNat ((IntKind.u64.wrap ((IntKind.u64.wrap ((IntKind.u64.wrap ((IntKind.u64.wrap ((rd t294 x26_1))) * (IntKind.u64.wrap (rd t297 x33_2)))) + (IntKind.u64.wrap (rd x7_2 (ji20))))) + x10_2)) % 4294967296)) := ⟨_, rfl⟩
       replace H : (N1Multiply.l1 k2 t297 y307 x26_1 (rd t294 x26_1) ((IntKind.u64.wrap ((IntKind.u64.wrap ((IntKind.u64.wrap ((IntKind.u64.wrap ((rd t294 x26_1))) * (IntKind.u64.wrap (rd t297 x33_2)))) + (IntKind.u64.wrap (rd x7_2 (ji20))))) + x10_2)) / 4294967296) t294 (t294.length : Int) x26_1 t297 (t297.length : Int) (wrap64 (x33_2 + 1))) = some r := by first | (rw [hy307]; with_reducible exact H) | (have H2_ := (Option.bind_some _ _).symm.trans H; rw [hy307]; with_reducible exact H2_) | (have H2_ := (Option.bind_some _ _).symm.trans H; with_reducible exact H2_) | with_reducible exact H | (rw [hy307]; exact H) | exact H
       have Ny307 := Aside0.mk hy307
       clear hy307
       have H' := Aside0.mk H
       clear H
       have p305 : 0 ≤ (x33_2 : Int) := of_decide_eq_true zq0
       have q305 : x33_2 < (t297.length : Int) := of_decide_eq_true zq0
       obtain ⟨ad305, e305, hx305_0⟩ := Kd.at_int (Kd.V_reads' HO_31.out).2.2 x33_2 p305 q305
       cases e305
       replace p305 := eq_true p305
       replace q305 := eq_true q305
       obtain ⟨Ao24, co24, eo24⟩ := Kd.R_slice HO_7.out
       subst eo24
       have p306 : 0 ≤ ((ji20) : Int) := of_decide_eq_true zq0
       have q306 : (ji20) < (x7_2.length : Int) := of_decide_eq_true zq0
       obtain ⟨ad306, e306, hx306_0⟩ := Kd.at_int (Kd.R_reads' HO_7.out).2.2 (ji20) p306 q306
       cases e306
       replace p306 := eq_true p306
       replace q306 := eq_true q306
       have p23 : 0 ≤ ((ji20) : Int) := of_decide_eq_true zq0
       have q23 : ((ji20) : Int) < ((x7_2.length : Int) : Int) := of_decide_eq_true zq0
       obtain ⟨go23, co23, eo23, gb23, gl23, cl23, HG23⟩ := Kd.R_form HO_7.out (by omega)
       (first | cases eo23 | (injection eo23 with ea_ en_ ec_; (first | subst ea_ | (injection ea_ with ea_; subst ea_)); subst ec_; clear en_))
       have GB23 := Aside0.mk gb23
       have GG23 := Aside0.mk HG23
       clear gb23 gl23 HG23
       (first | simp only [add_plain] at hx306_0 | skip)
       obtain ⟨hx23_0, hf23_0⟩ := Kd.R_celln 0 HO_7.out ((ji20) : Int) p23 q23
       (try simp only [Go.IntWalk.toNatUp] at hx23_0 hf23_0)
       replace p23 := eq_true p23
       replace q23 := eq_true q23
       have HP25 := Kd.R_putg HO_7.out ((ji20) : Int) ((IntKind.u64.wrap ((IntKind.u64.wrap ((IntKind.u64.wrap ((IntKind.u64.wrap ((rd t294 x26_1))) * (IntKind.u64.wrap (rd t297 x33_2)))) + (IntKind.u64.wrap (rd x7_2 (ji20))))) + x10_2)) % 4294967296)
       go_wp2_with (first | ((with_reducible refine gate_store (t := 86) (p := 59) rfl ?_); refine store_event (t := 86) (p := 59) (v := ?vo_w26) (w1 := (wr.setCell ⟨go23, ((ji20) : Int).toNat, none⟩ (.int .u32 ((IntKind.u64.wrap ((IntKind.u64.wrap ((IntKind.u64.wrap ((IntKind.u64.wrap ((rd t294 x26_1))) * (IntKind.u64.wrap (rd t297 x33_2)))) + (IntKind.u64.wrap (rd x7_2 (ji20))))) + x10_2)) % 4294967296)))) ?hg ?ho ?hn ?hr ?_; (case ho => rfl); (case hg => rfl); (case hn => rfl); (case hr => first | (go_simp; done) | (go_simp; rfl)); intro w26 hw; have hg : wr.grownBy w26 (some go23) := (by rw [hw]; exact HP25.2); have hp_ : Kd.R (Kd.int .u32) 86 w26 w.heap.size (fun _ => True) (.slice (some ⟨go23, 0, none⟩) x7_2.length co24) y307 := (by rw [hw, Ny307.out]; exact HP25.1); clear HP25; have n0_ := Aside0.mk (Kd.V_afterv (v := (.slice (some ⟨go23, 0, none⟩) x7_2.length co24)) (v1 := (.slice (some ⟨go23, 0, none⟩) x7_2.length co24)) (ok := (fun _ => True)) zq19 hg (.inl rfl)); have n1_ := Aside0.mk (hp_); have n2_ := Aside0.mk (Kd.V_afterv (v := (.slice (some ⟨go23, 0, none⟩) x7_2.length co24)) (v1 := (.slice (some ⟨go23, 0, none⟩) x7_2.length co24)) (ok := (fun _ => True)) (by (with_reducible repeat (first | apply Kd.V_alloc | apply Kd.V_drewN | apply Kd.V_drew)); exact Kd.V_mono HO_24.out (fun _ hk => ⟨trivial, hk⟩)) hg (.inl rfl)); have n3_ := Aside0.mk (Kd.V_afterv (v := (.slice (some ⟨go23, 0, none⟩) x7_2.length co24)) (v1 := (.slice (some ⟨go23, 0, none⟩) x7_2.length co24)) (ok := (fun _ => True)) (by (with_reducible repeat (first | apply Kd.V_alloc | apply Kd.V_drewN | apply Kd.V_drew)); exact Kd.V_mono HO_31.out (fun _ hk => ⟨trivial, hk⟩)) hg (.inl rfl)); have n4_ := Aside0.mk ((by rw [hw]; exact below_set (HB.out) GB23.out : Below w.heap.size w w26)); revert n0_ n1_ n2_ n3_ n4_; clear HO_6 HO_7 HO_24 HO_31 HB; intro HO_6 HO_7 HO_24 HO_31 HB; clear hg hw hp_))
       go_roundg k2
       case measure => have := HK1.out; have := HK2.out; omega
       case rel => exact ⟨(y307), ((IntKind.u64.wrap ((IntKind.u64.wrap ((IntKind.u64.wrap ((IntKind.u64.wrap ((rd t294 x26_1))) * (IntKind.u64.wrap (rd t297 x33_2)))) + (IntKind.u64.wrap (rd x7_2 (ji20))))) + x10_2)) / 4294967296), (wrap64 (x33_2 + 1)), (by first | rfl | (simp; done) | (simp only [← hji20] <;> (first | rfl | simp)) | (simp [*]; done)), zq1, H', ⟨by have := HK1.out; have := HK2.out; omega⟩, ⟨by (with_reducible repeat (first | apply Kd.V_alloc | apply Kd.V_drewN | apply Kd.V_drew)); exact Kd.V_mono HO_6.out (fun _ hk => hk.2)⟩, ⟨by (with_reducible repeat (first | apply Kd.R_alloc | apply Kd.R_drewN | apply Kd.R_drew)); exact HO_7.out⟩, ⟨by (with_reducible repeat (first | apply Kd.V_alloc | apply Kd.V_drewN | apply Kd.V_drew)); exact Kd.V_mono HO_24.out (fun _ hk => hk.2)⟩, ⟨by (with_reducible repeat (first | apply Kd.V_alloc | apply Kd.V_drewN | apply Kd.V_drew)); exact Kd.V_mono HO_31.out (fun _ hk => hk.2)⟩, ⟨zH⟩⟩
      ·rw [if_neg c17] at H
       have c17b0 := decide_eq_false c17
       clear c17
       obtain ⟨ji27, hji27⟩ : ∃ j_ : Int, (wrap64 (x26_1 + (t297.length : Int))) = j_ := ⟨_, rfl⟩
       first | rw [hji27] at H | simp only [hji27] at H
       have hji27w : (IntKind.i64.wrap (x26_1 + (t297.length : Int))) = ji27 := (i64_w _).trans hji27
       replace H := of_ite H
       obtain ⟨c28, H⟩ := H
       have c28b0 := decide_eq_true c28
       clear c28
       replace H := of_ite H
       obtain ⟨c29, H⟩ := H
       have c29b0 := decide_eq_true c29
       clear c29
       obtain ⟨y308, hy308⟩ : ∃ y_ : List Int, y_ = (x7_2.set ((ji27) : Int).toNat ((x10_2) % 4294967296)) := ⟨_, rfl⟩
       replace H : (N1Multiply.l0 k2 t297 y308 t294 (t294.length : Int) (wrap64 (x26_1 + 1))) = some r := by first | (rw [hy308]; with_reducible exact H) | (have H2_ := (Option.bind_some _ _).symm.trans H; rw [hy308]; with_reducible exact H2_) | (have H2_ := (Option.bind_some _ _).symm.trans H; with_reducible exact H2_) | with_reducible exact H | (rw [hy308]; exact H) | exact H
       have Ny308 := Aside0.mk hy308
       clear hy308
       have H' := Aside0.mk H
       clear H
       have p30 : 0 ≤ ((ji27) : Int) := of_decide_eq_true zq0
       have q30 : ((ji27) : Int) < ((x7_2.length : Int) : Int) := of_decide_eq_true zq0
       obtain ⟨go30, co30, eo30, gb30, gl30, cl30, HG30⟩ := Kd.R_form HO_7.out (by omega)
       (first | cases eo30 | (injection eo30 with ea_ en_ ec_; (first | subst ea_ | (injection ea_ with ea_; subst ea_)); subst ec_; clear en_))
       have GB30 := Aside0.mk gb30
       have GG30 := Aside0.mk HG30
       clear gb30 gl30 HG30
       obtain ⟨hx30_0, hf30_0⟩ := Kd.R_celln 0 HO_7.out ((ji27) : Int) p30 q30
       (try simp only [Go.IntWalk.toNatUp] at hx30_0 hf30_0)
       replace p30 := eq_true p30
       replace q30 := eq_true q30
       have HP31 := Kd.R_putg HO_7.out ((ji27) : Int) ((x10_2) % 4294967296)
       go_wp2_with (first | ((with_reducible refine gate_store (t := 86) (p := 70) rfl ?_); refine store_event (t := 86) (p := 70) (v := ?vo_w32) (w1 := (wr.setCell ⟨go30, ((ji27) : Int).toNat, none⟩ (.int .u32 ((x10_2) % 4294967296)))) ?hg ?ho ?hn ?hr ?_; (case ho => rfl); (case hg => rfl); (case hn => rfl); (case hr => first | (go_simp; done) | (go_simp; rfl)); intro w32 hw; have hg : wr.grownBy w32 (some go30) := (by rw [hw]; exact HP31.2); have hp_ : Kd.R (Kd.int .u32) 86 w32 w.heap.size (fun _ => True) (.slice (some ⟨go30, 0, none⟩) x7_2.length co30) y308 := (by rw [hw, Ny308.out]; exact HP31.1); clear HP31; have n0_ := Aside0.mk (Kd.V_afterv (v := (.slice (some ⟨go30, 0, none⟩) x7_2.length co30)) (v1 := (.slice (some ⟨go30, 0, none⟩) x7_2.length co30)) (ok := (fun _ => True)) zq19 hg (.inl rfl)); have n1_ := Aside0.mk (hp_); have n2_ := Aside0.mk (Kd.V_afterv (v := (.slice (some ⟨go30, 0, none⟩) x7_2.length co30)) (v1 := (.slice (some ⟨go30, 0, none⟩) x7_2.length co30)) (ok := (fun _ => True)) (by (with_reducible repeat (first | apply Kd.V_alloc | apply Kd.V_drewN | apply Kd.V_drew)); exact Kd.V_mono HO_24.out (fun _ hk => ⟨trivial, hk⟩)) hg (.inl rfl)); have n3_ := Aside0.mk (Kd.V_afterv (v := (.slice (some ⟨go30, 0, none⟩) x7_2.length co30)) (v1 := (.slice (some ⟨go30, 0, none⟩) x7_2.length co30)) (ok := (fun _ => True)) (by (with_reducible repeat (first | apply Kd.V_alloc | apply Kd.V_drewN | apply Kd.V_drew)); exact Kd.V_mono HO_31.out (fun _ hk => ⟨trivial, hk⟩)) hg (.inl rfl)); have n4_ := Aside0.mk ((by rw [hw]; exact below_set (HB.out) GB30.out : Below w.heap.size w w32)); revert n0_ n1_ n2_ n3_ n4_; clear HO_6 HO_7 HO_24 HO_31 HB; intro HO_6 HO_7 HO_24 HO_31 HB; clear hg hw hp_))
       go_roundg k2
       case measure => have := HK1.out; have := HK2.out; omega
       case rel => exact ⟨(y308), (wrap64 (x26_1 + 1)), zq1, H', ⟨by have := HK1.out; have := HK2.out; omega⟩, ⟨by (with_reducible repeat (first | apply Kd.V_alloc | apply Kd.V_drewN | apply Kd.V_drew)); exact Kd.V_mono HO_6.out (fun _ hk => hk.2)⟩, ⟨by (with_reducible repeat (first | apply Kd.R_alloc | apply Kd.R_drewN | apply Kd.R_drew)); exact HO_7.out⟩, ⟨by (with_reducible repeat (first | apply Kd.V_alloc | apply Kd.V_drewN | apply Kd.V_drew)); exact Kd.V_mono HO_24.out (fun _ hk => hk.2)⟩, ⟨zH⟩⟩
   ·rw [if_neg c14] at H
    have c14b0 := decide_eq_false c14
    clear c14
    replace H := Option.bind_eq_some_iff.mp H
    obtain ⟨t303, A330, H⟩ := H
    (try dsimp only at H)
    have A33 := Aside0.mk A330
    clear A330
    obtain rfl := Option.some.inj H
    obtain ⟨Ao34, co34, eo34⟩ := Kd.R_slice HO_7.out
    subst eo34
    go_wp2_with (first | (refine goesLA 73 Tryd.func67 #[.slice Ao34 x7_1.length co34] ?_; (with_reducible refine (N1limbs_text.calls k1 _ _ x7_1 t303 _ ?side1 ?side2 A33.out).mono ?_); (case side1 => repeat (first | exact (Kd.R_reads' HO_7.out).2.2 | (with_reducible refine Kd.C_alloc ?_ _) | (with_reducible refine Kd.C_drewN ?_ _) | (with_reducible refine Kd.C_drew ?_))); (case side2 => exact (Kd.R_reads' HO_7.out).2.1); rintro e w35 ⟨rfl, hb⟩; refine ⟨_, rfl, ?_⟩; have n0_ := Aside0.mk (Kd.V_below zq12 hb); have n1_ := Aside0.mk (Kd.R_below zq26 hb); have n2_ := Aside0.mk (Kd.V_below (by (with_reducible repeat (first | apply Kd.V_alloc | apply Kd.V_drewN | apply Kd.V_drew)); exact HO_24.out) hb); have n3_ := sB hb; revert n0_ n1_ n2_ n3_; clear HO_6 HO_7 HO_24 HB; intro HO_6 HO_7 HO_24 HB; (try clear hb); (try clear hb2); (try clear hk); (try clear hi)))
    go_ret
    exact ⟨by first | rfl | (simp [errW_none, errW_some] <;> rfl) | (simp only [← hji5]; first | rfl | (simp [errW_none, errW_some] <;> rfl)) | (simp [*, errW_none, errW_some] <;> rfl), zH⟩
def R1Normalize.l0 : Nat → ByteArray → Int → Option (ByteArray)
 | 0, _, _ => none
 | k + 1, x0, x3 => if x3 < (x0.size : Int) then (if 0 ≤ x3 then (if (bt x0 x3) = 0 then (R1Normalize.l0 k x0 (wrap64 (x3 + 1))) else (if x3 ≤ (x0.size : Int) then (some (x0.extract (x3 : Int).toNat x0.size)) else (none))) else (none)) else (if 0 ≤ x3 then (if x3 ≤ (x0.size : Int) then (some (x0.extract (x3 : Int).toNat x0.size)) else (none)) else (none))
def R1Normalize.f (k : Nat) (a0 : ByteArray) : Option (ByteArray) := R1Normalize.l0 k a0 0
set_option maxHeartbeats 8000000 in
set_option maxRecDepth 100000 in
theorem R1Normalize.calls (k : Nat) (a0 : ByteArray) (r : ByteArray) (w : World) (h : R1Normalize.f k a0 = some r) :
 Calls Tryd.prog 79 #[.string a0] w fun e w' => e = .returned (.string r) ∧ Drawn0 w w' := by
 have H : (R1Normalize.l0 k a0 0) = some r := h
 clear h
 have H' := Aside0.mk H
 clear H
 go_enter Tryd.func79, Tryd.ntmps79
 go_wp2
 go_loopg [3] k (fun kq v3 w' => ∃ (x3_1 : Int), v3 = .int .i64 x3_1 ∧ Aside0 (R1Normalize.l0 kq a0 x3_1 = some r) ∧ Aside0 (kq ≤ k) ∧ Drawn0 w w')
 case atStart => exact ⟨(0), zq1, H', ⟨Nat.le_refl _⟩, by repeat (first | exact Drawn0.refl _ | apply Drawn0.step)⟩
 case round =>
  clear H'
  obtain ⟨x3_1, rfl, HA, HK1, ⟨m1, rfl⟩⟩ := hrel
  cases gk with
  | zero => exact absurd HA.out (by simp [R1Normalize.l0])
  | succ k1 =>
   have H := HA.out
   clear HA
   simp only [R1Normalize.l0] at H
   by_cases c2 : x3_1 < (a0.size : Int)
   ·rw [if_pos c2] at H
    have c2b0 := decide_eq_true c2
    clear c2
    replace H := of_ite H
    obtain ⟨c3, H⟩ := H
    have c3b0 := decide_eq_true c3
    clear c3
    by_cases c5 : (bt a0 x3_1) = 0
    ·rw [if_pos c5] at H
     have c5b0 := beq_iff_eq.mpr c5
     have c5b1 : ((bt a0 x3_1) != 0) = false := bne_eq_false_iff_eq.mpr c5
     clear c5
     have H' := Aside0.mk H
     clear H
     have p4 : 0 ≤ (x3_1 : Int) := of_decide_eq_true zq0
     have q4 : x3_1 < (a0.size : Int) := of_decide_eq_true zq0
     have hx4 := bt_at a0 x3_1
     replace p4 := eq_true p4
     replace q4 := eq_true q4
     go_wp2
     go_roundg k1
     case measure => have := HK1.out; omega
     case rel => exact ⟨(wrap64 (x3_1 + 1)), zq1, H', ⟨by have := HK1.out; omega⟩, by repeat (first | exact Drawn0.refl _ | apply Drawn0.step)⟩
    ·rw [if_neg c5] at H
     have c5b0 := beq_eq_false_iff_ne.mpr c5
     have c5b1 := bne_iff_ne.mpr c5
     have c6b0 := eq_true (of_decide_eq_true zq0 : 0 ≤ x3_1)
     replace H := of_ite H
     obtain ⟨c7, H⟩ := H
     have c7b0 := eq_true c7
     have c7b1 := decide_eq_true c7
     clear c7
     obtain rfl := Option.some.inj H
     have p4 : 0 ≤ (x3_1 : Int) := of_decide_eq_true zq0
     have q4 : x3_1 < (a0.size : Int) := of_decide_eq_true zq0
     have hx4 := bt_at a0 x3_1
     replace p4 := eq_true p4
     replace q4 := eq_true q4
     go_wp2
     go_ret
     exact ⟨by first | rfl | (simp; done) | (simp [*]; done), by repeat (first | exact Drawn0.refl _ | apply Drawn0.step)⟩
   ·rw [if_neg c2] at H
    have c2b0 := decide_eq_false c2
    clear c2
    replace H := of_ite H
    obtain ⟨c8, H⟩ := H
    have c8b0 := eq_true c8
    have c8b1 := decide_eq_true c8
    clear c8
    replace H := of_ite H
    obtain ⟨c9, H⟩ := H
    have c9b0 := eq_true c9
    have c9b1 := decide_eq_true c9
    clear c9
    obtain rfl := Option.some.inj H
    go_wp2
    go_ret
    exact ⟨by first | rfl | (simp; done) | (simp [*]; done), by repeat (first | exact Drawn0.refl _ | apply Drawn0.step)⟩
end Go.Proofs.YtggfilmdfpmbmaaDoor.QN
end
section
namespace Go.Proofs.YtggfilmdfpmbmaaDoor.QN
open Go.RowKit Go.Proofs.YtggfilmdfpmbmaaDoorW.PrintWords Go.Proofs.YtggfilmdfpmbmaaDoorW.PrintLast Go.Proofs.YtggfilmdfpmbmaaDoorW.PrintMore
attribute [local go_sem] max2_int min2_int max_two min_two max_three min_three max_four min_four   -- for this text's walks alone
set_option linter.unusedVariables false
set_option linter.unusedSimpArgs false
def R1limbs.l0 : Nat → ByteArray → List Int → Int → Option (List Int)
 | 0, _, _, _ => none
 | k + 1, x0, x3, x4 => if x4 < (x0.size : Int) then (if 0 ≤ (wrap64 (Int.tdiv x4 4)) then (if (wrap64 (Int.tdiv x4 4)) < (x3.length : Int) then (if 0 ≤ (wrap64 ((wrap64 ((x0.size : Int) - 1)) - x4)) then (if (wrap64 ((wrap64 ((x0.size : Int) - 1)) - x4)) < (x0.size : Int) then (if 0 ≤ (IntKind.u64.wrap (wrap64 (8 * (Int.tmod x4 4)))) then (if (IntKind.u64.wrap (wrap64 (8 * (Int.tmod x4 4)))) ≤ 32 then (R1limbs.l0 k x0 (x3.set ((wrap64 (Int.tdiv x4 4)) : Int).toNat (Go.bits .or .u32 (rd x3 (wrap64 (Int.tdiv x4 4))) ((((bt x0 (wrap64 ((wrap64 ((x0.size : Int) - 1)) - x4))) % 4294967296) * 2 ^ (IntKind.u64.wrap (wrap64 (8 * (Int.tmod x4 4)))).toNat) % 4294967296))) (wrap64 (x4 + 1))) else (none)) else (none)) else (none)) else (none)) else (none)) else (none)) else (some x3)
def R1limbs.f (k : Nat) (a0 : ByteArray) : Option (List Int) := (R1Normalize.f k a0).bind fun t313 => (if 0 ≤ (wrap64 (Int.tdiv (wrap64 ((t313.size : Int) + 3)) 4)) then (if (wrap64 (Int.tdiv (wrap64 ((t313.size : Int) + 3)) 4) : Int).toNat ≤ 70368744177664 then (R1limbs.l0 k t313 (List.replicate (wrap64 (Int.tdiv (wrap64 ((t313.size : Int) + 3)) 4) : Int).toNat 0) 0) else (none)) else (none))
def R1limbs.T6 : Bool × List (List Nat × List Nat) := (true, [([], []), ([], []), ([1], [1]), ([], []), ([], []), ([4], [4]), ([3, 5], [3, 5]), ([6], [6]), ([], []), ([], []), ([9], [9]), ([10], [10]), ([], []), ([11, 12], [11, 12]), ([8, 13], [8, 13]), ([14], [14]), ([], []), ([16], [16]), ([17], [17]), ([18], [18]), ([15, 19], [15, 19]), ([7, 20], [7, 20]), ([0, 2, 0, 1, 2, 3, 4, 5, 6, 7, 8, 9, 10, 11, 12, 13, 14, 15, 16, 17, 18, 19, 20, 21], [0, 2]), ([22, 21, 0, 1, 2, 3, 4, 5, 6, 7, 8, 9, 10, 11, 12, 13, 14, 15, 16, 17, 18, 19, 20, 21], [21, 22])])
def R1limbs.B6 : List Nat := [0, 0, 2, 0, 0, 16, 56, 120, 0, 0, 512, 1536, 0, 7680, 16128, 32512, 0, 65536, 196608, 458752, 1048320, 2097144, 4194303, 8388607]
theorem R1limbs.tab6 : rtab .any (opsOf Tryd.f56 6) = R1limbs.T6 := by kernel_rfl
theorem R1limbs.bits6 : waitsOk R1limbs.T6.2 R1limbs.B6 = true := by kernel_rfl
set_option maxHeartbeats 8000000 in
set_option maxRecDepth 100000 in
theorem R1limbs.calls (k : Nat) (a0 : ByteArray) (r : List Int) (w : World) (h : R1limbs.f k a0 = some r) :
 Calls Tryd.prog 56 #[.string a0] w fun e w' => ∃ v0_ : Value, e = .returned (v0_) ∧ Kd.R (Kd.int .u32) 86 w' w.heap.size (fun _ => True) v0_ r ∧ Below w.heap.size w w' := by
 have HB := Aside0.mk (Below.refl w.heap.size w)
 have H : ((R1Normalize.f k a0).bind fun t313 => (if 0 ≤ (wrap64 (Int.tdiv (wrap64 ((t313.size : Int) + 3)) 4)) then (if (wrap64 (Int.tdiv (wrap64 ((t313.size : Int) + 3)) 4) : Int).toNat ≤ 70368744177664 then (R1limbs.l0 k t313 (List.replicate (wrap64 (Int.tdiv (wrap64 ((t313.size : Int) + 3)) 4) : Int).toNat 0) 0) else (none)) else (none))) = some r := h
 clear h
 replace H := Option.bind_eq_some_iff.mp H
 obtain ⟨t313, A20, H⟩ := H
 (try dsimp only at H)
 have A2 := Aside0.mk A20
 clear A20
 obtain ⟨ji3, hji3⟩ : ∃ j_ : Int, (wrap64 (Int.tdiv (wrap64 ((t313.size : Int) + 3)) 4)) = j_ := ⟨_, rfl⟩
 first | rw [hji3] at H | simp only [hji3] at H
 (try rw [hji3] at A2)
 have hji3w : (IntKind.i64.wrap (Int.tdiv (wrap64 ((t313.size : Int) + 3)) 4)) = ji3 := (i64_w _).trans hji3
 replace H := of_ite H
 obtain ⟨c4, H⟩ := H
 have c4b0 := eq_true c4
 have c4b1 := decide_eq_true c4
 clear c4
 replace H := of_ite H
 obtain ⟨c5, H⟩ := H
 have c5b0 := eq_true c5
 have c5b1 := decide_eq_true c5
 clear c5
 obtain ⟨y314, hy314⟩ : ∃ y_ : List Int, y_ = (List.replicate (ji3 : Int).toNat 0) := ⟨_, rfl⟩
 replace H : (R1limbs.l0 k t313 y314 0) = some r := by first | (rw [hy314]; with_reducible exact H) | (have H2_ := (Option.bind_some _ _).symm.trans H; rw [hy314]; with_reducible exact H2_) | (have H2_ := (Option.bind_some _ _).symm.trans H; with_reducible exact H2_) | with_reducible exact H | (rw [hy314]; exact H) | exact H
 have Ny314 := Aside0.mk hy314
 clear hy314
 have H' := Aside0.mk H
 clear H
 go_enter Tryd.func56, Tryd.ntmps56
 go_wp2_with (first | (refine goesLA 6 Tryd.func79 #[.string a0] ?_; (with_reducible refine (R1Normalize.calls k a0 t313 _ A2.out).mono ?_); rintro e w' ⟨rfl, ⟨nd, rfl⟩⟩; refine ⟨_, rfl, ?_⟩) | ((with_reducible refine gate_dst (N := 11) rfl ?_); refine Kd.R_make (Kd.int .u32) _ 86 rfl (N := 11) rfl 74 _ _ rfl ji3 rfl rfl Tryd.underlying74 (.int .u32 0) 4 info86 rfl (by decide) (by omega) 0 (ok := fun _ => True) (okp := fun _ => True) rfl (fun _ hk => hk) trivial (of_decide_eq_true zq0) (Nat.le_trans (Nat.mul_le_mul_right _ (of_decide_eq_true zq0 : ji3.toNat ≤ 70368744177664)) (by omega)) (Below.refl _ _) (Nat.le_refl _) ?_; intro v315 w6 ho7 hb hg_ hnew_; clear hg_ hnew_; (first | rw [← Ny314.out] at ho7 | (simp only [Int.reduceToNat] at ho7; rw [← Ny314.out] at ho7)); have n0_ := Aside0.mk (Kd.R_lower ho7 (below_size zH)); have n1_ := sB hb; revert n0_ n1_; clear HB; intro HO316 HB; clear hb ho7))
 go_loopg [4] k (fun kq v4 w' => ∃ (x3_1 : List Int) (x4_1 : Int), v4 = .int .i64 x4_1 ∧ Aside0 (R1limbs.l0 kq t313 x3_1 x4_1 = some r) ∧ Aside0 (kq ≤ k) ∧ Aside0 (Kd.R (Kd.int .u32) 86 w' w.heap.size (fun _ => True) v315 x3_1) ∧ Aside0 (Below w.heap.size w w'))
 case atStart => exact ⟨(y314), (0), zq1, H', ⟨Nat.le_refl _⟩, ⟨by (with_reducible repeat (first | apply Kd.R_alloc | apply Kd.R_drewN | apply Kd.R_drew)); exact HO316.out⟩, ⟨zH⟩⟩
 case round =>
  clear H'
  (try clear p2); (try clear c4); (try clear c4b0); (try clear c4b1); (try clear c5); (try clear c5b0); (try clear c5b1); (try clear p6); (try clear c7)
  obtain ⟨x3_1, x4_1, rfl, HA, HK1, HO_3, HB⟩ := hrel
  cases gk with
  | zero => exact absurd HA.out (by simp [R1limbs.l0])
  | succ k1 =>
   have H := HA.out
   clear HA
   simp only [R1limbs.l0] at H
   by_cases c8 : x4_1 < (t313.size : Int)
   ·rw [if_pos c8] at H
    have c8b0 := decide_eq_true c8
    clear c8
    obtain ⟨ji9, hji9⟩ : ∃ j_ : Int, (wrap64 (Int.tdiv x4_1 4)) = j_ := ⟨_, rfl⟩
    first | rw [hji9] at H | simp only [hji9] at H
    have hji9w : (IntKind.i64.wrap (Int.tdiv x4_1 4)) = ji9 := (i64_w _).trans hji9
    replace H := of_ite H
    obtain ⟨c10, H⟩ := H
    have c10b0 := decide_eq_true c10
    clear c10
    replace H := of_ite H
    obtain ⟨c11, H⟩ := H
    have c11b0 := decide_eq_true c11
    clear c11
    obtain ⟨ji12, hji12⟩ : ∃ j_ : Int, (wrap64 ((wrap64 ((t313.size : Int) - 1)) - x4_1)) = j_ := ⟨_, rfl⟩
    first | rw [hji12] at H | simp only [hji12] at H
    have hji12w : (IntKind.i64.wrap ((wrap64 ((t313.size : Int) - 1)) - x4_1)) = ji12 := (i64_w _).trans hji12
    replace H := of_ite H
    obtain ⟨c13, H⟩ := H
    have c13b0 := decide_eq_true c13
    clear c13
    replace H := of_ite H
    obtain ⟨c14, H⟩ := H
    have c14b0 := decide_eq_true c14
    clear c14
    obtain ⟨ji16, hji16⟩ : ∃ j_ : Int, (IntKind.u64.wrap (wrap64 (8 * (Int.tmod x4_1 4)))) = j_ := ⟨_, rfl⟩
    first | rw [hji16] at H | simp only [hji16] at H
    replace H := of_ite H
    obtain ⟨c17, H⟩ := H
    have c17b0 := eq_true c17
    have c17b1 := decide_eq_true c17
    clear c17
    replace H := of_ite H
    obtain ⟨c18, H⟩ := H
    have c18b0 := eq_true c18
    have c18b1 := decide_eq_true c18
    clear c18
    obtain ⟨y318, hy318⟩ : ∃ y_ : List Int, y_ = (x3_1.set ((ji9) : Int).toNat (Go.bits .or .u32 (rd x3_1 (ji9)) ((((bt t313 (ji12)) % 4294967296) * 2 ^ (ji16).toNat) % 4294967296))) := ⟨_, rfl⟩
    replace H : (R1limbs.l0 k1 t313 y318 (wrap64 (x4_1 + 1))) = some r := by first | (rw [hy318]; with_reducible exact H) | (have H2_ := (Option.bind_some _ _).symm.trans H; rw [hy318]; with_reducible exact H2_) | (have H2_ := (Option.bind_some _ _).symm.trans H; with_reducible exact H2_) | with_reducible exact H | (rw [hy318]; exact H) | exact H
    have Ny318 := Aside0.mk hy318
    clear hy318
    have H' := Aside0.mk H
    clear H
    try go_wp2
    have n0_ := Aside0.mk (Kd.R_drew HO_3.out)
    have n1_ := Aside0.mk (below_drew1 HB.out)
    revert n0_ n1_
    clear HO_3 HB
    intro HO_3 HB
    obtain ⟨Ao21, co21, eo21⟩ := Kd.R_slice HO_3.out
    (first | subst eo21 | (injection eo21 with f1_ f2_ f3_; have f4_ := f1_.symm; have f5_ := f3_.symm; clear f1_ f2_ f3_; subst f4_; subst f5_))
    have p317 : 0 ≤ ((ji9) : Int) := of_decide_eq_true zq0
    have q317 : (ji9) < (x3_1.length : Int) := of_decide_eq_true zq0
    obtain ⟨ad317, e317, hx317_0⟩ := Kd.at_int (Kd.R_reads' HO_3.out).2.2 (ji9) p317 q317
    cases e317
    replace p317 := eq_true p317
    replace q317 := eq_true q317
    have p15 : 0 ≤ ((ji12) : Int) := of_decide_eq_true zq0
    have q15 : (ji12) < (t313.size : Int) := of_decide_eq_true zq0
    have hx15 := bt_at t313 (ji12)
    replace p15 := eq_true p15
    replace q15 := eq_true q15
    have p19 : 0 ≤ ((ji9) : Int) := of_decide_eq_true zq0
    have q19 : ((ji9) : Int) < ((x3_1.length : Int) : Int) := of_decide_eq_true zq0
    obtain ⟨go19, co19, eo19, gb19, gl19, cl19, HG19⟩ := Kd.R_form HO_3.out (by omega)
    (first | cases eo19 | (injection eo19 with ea_ en_ ec_; (first | subst ea_ | (injection ea_ with ea_; subst ea_)); subst ec_; clear en_))
    have GB19 := Aside0.mk gb19
    have GG19 := Aside0.mk HG19
    clear gb19 gl19 HG19
    (first | simp only [add_plain] at hx317_0 | skip)
    obtain ⟨hx19_0, hf19_0⟩ := Kd.R_celln 0 HO_3.out ((ji9) : Int) p19 q19
    (try simp only [Go.IntWalk.toNatUp] at hx19_0 hf19_0)
    replace p19 := eq_true p19
    replace q19 := eq_true q19
    have HP22 := Kd.R_putn HO_3.out ((ji9) : Int) (Go.bits .or .u32 (rd x3_1 (ji9)) ((((bt t313 (ji12)) % 4294967296) * 2 ^ (ji16).toNat) % 4294967296))
    rw [← Ny318.out] at HP22
    have HQ22 := Aside0.mk HP22
    clear HP22
    refine start_ (n := 24) (S := fun w' => w'.cell? ⟨go19, ((ji9)).toNat, none⟩ = some (.int .u32 (rd x3_1 (ji9)))) (ds := [23]) #[false, false, false, false, false, false, false, false, false, false, false, false, false, false, false, false, false, false, false, false, false, false, false, false] (by kernel_rfl) rfl rfl (hx317_0) (fun hHeld => ?_); refine with_tabW R1limbs.tab6 R1limbs.bits6 (fun HT_ HW_ => ?_)
    generalize wr.drew = w20 at HO_3 HB GG19 HQ22 hf19_0 hx19_0 hx317_0 hHeld ⊢
    refine pureA 0 18 (lB 24 1) rfl rfl ?_
    refine pureA 1 19 (lB 24 3) rfl rfl ?_
    refine pureA 2 20 (lB 24 7) rfl rfl ?_
    refine pureA 3 21 (lB 24 15) rfl rfl ?_
    refine pureA 4 22 (lB 24 31) rfl rfl ?_
    refine pureA 5 23 (lB 24 63) rfl rfl ?_
    refine pureA 6 24 (lB 24 127) rfl rfl ?_
    refine pureA 8 26 (lB 24 383) rfl rfl ?_
    refine pureA 9 27 (lB 24 895) rfl rfl ?_
    refine pureA 10 28 (lB 24 1919) rfl rfl ?_
    refine pureA 11 29 (lB 24 3967) rfl rfl ?_
    refine pureA 12 30 (lB 24 8063) rfl rfl ?_
    refine pureA 13 31 (lB 24 16255) rfl rfl ?_
    refine pureA 16 34 (lB 24 81791) rfl rfl ?_
    refine pureA 17 35 (lB 24 212863) rfl rfl ?_
    refine pureA 18 36 (lB 24 475007) rfl rfl ?_
    refine pureA 19 37 (lB 24 999295) rfl rfl ?_
    refine take_ (i := 7) (N := some 25) (v := ?_) (a' := ?_) #[true, true, true, true, true, true, true, true, true, true, true, true, true, true, false, false, true, true, true, true, false, false, false, false] rfl rfl (take_ofW HT_.out HW_.out (by kernel_rfl)) (fun _ _ _ h => h) (Or.inl ⟨by rfl, ?_⟩) hHeld ?_ ?_
    rotate_left
    ·intro w' s0
     go_simp
     with_reducible rfl
    rotate_left
    ·simp only [Act.put, List.setIfInBounds_toArray, List.set_cons_zero, List.set_cons_succ, i64_w, i32_w]
     rfl
    refine take_ (i := 14) (N := some 32) (v := ?_) (a' := ?_) #[true, true, true, true, true, true, true, true, true, true, true, true, true, true, true, false, true, true, true, true, false, false, false, false] rfl rfl (take_ofW HT_.out HW_.out (by kernel_rfl)) (fun _ _ _ h => h) (Or.inl ⟨by rfl, ?_⟩) hHeld ?_ ?_
    rotate_left
    ·intro w' s0
     go_simp
     with_reducible rfl
    rotate_left
    ·simp only [Act.put, List.setIfInBounds_toArray, List.set_cons_zero, List.set_cons_succ, i64_w, i32_w]
     rfl
    refine pureA 15 33 (lB 24 1048575) rfl rfl ?_
    refine pureA 20 38 (lB 24 2097151) rfl rfl ?_
    refine pureA 21 39 (lB 24 4194303) rfl rfl ?_
    refine pureA 22 40 (lB 24 8388607) rfl rfl ?_
    refine last_ (i := 23) (N := none) (lB 24 16777215) rfl rfl (one_of HT_.out (by kernel_rfl)) (by decide) (fun K hK => ?_)
    refine skip_ (w1 := ?_) (by rfl) rfl ?_ ?_
    rotate_left
    ·go_simp
     rfl
    refine hK.out _ _ ?_
    clear hK K
    refine done_ (done_of HT_.out (by kernel_rfl)) ?_
    try go_wp2
    go_roundg k1
    case measure => have := HK1.out; omega
    case rel => exact ⟨(y318), (wrap64 (x4_1 + 1)), zq1, H', ⟨by have := HK1.out; omega⟩, ⟨by (with_reducible repeat (first | apply Kd.R_alloc | apply Kd.R_drewN | apply Kd.R_drew)); exact HQ22.out⟩, ⟨zH⟩⟩
   ·rw [if_neg c8] at H
    have c8b0 := decide_eq_false c8
    clear c8
    obtain rfl := Option.some.inj H
    go_wp2
    go_ret
    exact ⟨_, by first | rfl | (simp [errW_none, errW_some] <;> rfl) | (simp only [← hji3]; first | rfl | (simp [errW_none, errW_some] <;> rfl)) | (simp [*, errW_none, errW_some] <;> rfl), by (with_reducible repeat (first | apply Kd.R_alloc | apply Kd.R_drewN | apply Kd.R_drew)); exact HO_3.out, zH⟩
def R1strip.l0 : Nat → List Int → Int → Option (List Int)
 | 0, _, _ => none
 | k + 1, x0, x3 => if x3 > 0 then (if 0 ≤ (wrap64 (x3 - 1)) then (if (wrap64 (x3 - 1)) < (x0.length : Int) then (if (rd x0 (wrap64 (x3 - 1))) = 0 then (R1strip.l0 k x0 (wrap64 (x3 - 1))) else (if 0 ≤ x3 then (if x3 ≤ (x0.length : Int) then (some (x0.take (x3 : Int).toNat)) else (none)) else (none))) else (none)) else (none)) else (if 0 ≤ x3 then (if x3 ≤ (x0.length : Int) then (some (x0.take (x3 : Int).toNat)) else (none)) else (none))
def R1strip.f (k : Nat) (l0 : List Int) : Option (List Int) := R1strip.l0 k l0 (l0.length : Int)
set_option maxHeartbeats 8000000 in
set_option maxRecDepth 100000 in
theorem R1strip.calls (k : Nat) (P0_ : Nat → Prop) (A0 : Option Addr) (c0 : Nat) (l0 : List Int) (r : List Int) (w : World) (hs0 : Kd.V (Kd.int .u32) 86 w w.heap.size (fun k_ => P0_ k_) (.slice A0 l0.length c0) l0) (h : R1strip.f k l0 = some r) :
 Calls Tryd.prog 78 #[.slice A0 l0.length c0] w fun e w' => ∃ v0_ : Value, e = .returned (v0_) ∧ Kd.V (Kd.int .u32) 86 w' w.heap.size (fun k_ => (P0_ k_ ∨ w.heap.size ≤ k_)) v0_ r ∧ Below w.heap.size w w' := by
 have HO0 := Aside0.mk (show Kd.V (Kd.int .u32) 86 w w.heap.size (fun k_ => (P0_ k_ ∨ w.heap.size ≤ k_)) (.slice A0 l0.length c0) l0 from Kd.V_mono hs0 (fun k_ hk => .inl hk))
 have HB := Aside0.mk (Below.refl w.heap.size w)
 have H : (R1strip.l0 k l0 (l0.length : Int)) = some r := h
 clear h
 have H' := Aside0.mk H
 clear H
 go_enter Tryd.func78, Tryd.ntmps78
 go_wp2
 go_loopg [3] k (fun kq v3 w' => ∃ (x3_1 : Int), v3 = .int .i64 x3_1 ∧ Aside0 (R1strip.l0 kq l0 x3_1 = some r) ∧ Aside0 (kq ≤ k) ∧ Aside0 (Kd.V (Kd.int .u32) 86 w' w.heap.size (fun k_ => (P0_ k_ ∨ w.heap.size ≤ k_)) (.slice A0 l0.length c0) l0) ∧ Aside0 (Below w.heap.size w w'))
 case atStart => exact ⟨((l0.length : Int)), zq1, H', ⟨Nat.le_refl _⟩, ⟨by (with_reducible repeat (first | apply Kd.V_alloc | apply Kd.V_drewN | apply Kd.V_drew)); exact HO0.out⟩, ⟨zH⟩⟩
 case round =>
  clear H'
  obtain ⟨x3_1, rfl, HA, HK1, HO_0, HB⟩ := hrel
  cases gk with
  | zero => exact absurd HA.out (by simp [R1strip.l0])
  | succ k1 =>
   have H := HA.out
   clear HA
   simp only [R1strip.l0] at H
   by_cases c2 : x3_1 > 0
   ·rw [if_pos c2] at H
    have c2b0 := decide_eq_true c2
    clear c2
    obtain ⟨ji3, hji3⟩ : ∃ j_ : Int, (wrap64 (x3_1 - 1)) = j_ := ⟨_, rfl⟩
    first | rw [hji3] at H | simp only [hji3] at H
    have hji3w : (IntKind.i64.wrap (x3_1 - 1)) = ji3 := (i64_w _).trans hji3
    replace H := of_ite H
    obtain ⟨c4, H⟩ := H
    have c4b0 := decide_eq_true c4
    clear c4
    replace H := of_ite H
    obtain ⟨c5, H⟩ := H
    have c5b0 := decide_eq_true c5
    clear c5
    by_cases c6 : (rd l0 (ji3)) = 0
    ·rw [if_pos c6] at H
     have c6b0 := beq_iff_eq.mpr c6
     have c6b1 : ((rd l0 (ji3)) != 0) = false := bne_eq_false_iff_eq.mpr c6
     clear c6
     have H' := Aside0.mk H
     clear H
     have p319 : 0 ≤ ((ji3) : Int) := of_decide_eq_true zq0
     have q319 : (ji3) < (l0.length : Int) := of_decide_eq_true zq0
     obtain ⟨ad319, e319, hx319_0⟩ := Kd.at_int (Kd.V_reads' HO_0.out).2.2 (ji3) p319 q319
     cases e319
     replace p319 := eq_true p319
     replace q319 := eq_true q319
     go_wp2
     go_roundg k1
     case measure => have := HK1.out; omega
     case rel => exact ⟨(ji3), (by first | rfl | (simp; done) | (simp only [← hji3] <;> (first | rfl | simp)) | (simp [*]; done)), H', ⟨by have := HK1.out; omega⟩, ⟨by (with_reducible repeat (first | apply Kd.V_alloc | apply Kd.V_drewN | apply Kd.V_drew)); exact HO_0.out⟩, ⟨zH⟩⟩
    ·rw [if_neg c6] at H
     have c6b0 := beq_eq_false_iff_ne.mpr c6
     have c6b1 := bne_iff_ne.mpr c6
     replace H := of_ite H
     obtain ⟨c7, H⟩ := H
     have c7b0 := eq_true c7
     have c7b1 := decide_eq_true c7
     clear c7
     replace H := of_ite H
     obtain ⟨c8, H⟩ := H
     have c8b0 := eq_true c8
     have c8b1 := decide_eq_true c8
     clear c8
     obtain ⟨y320, hy320⟩ : ∃ y_ : List Int, y_ = (l0.take (x3_1 : Int).toNat) := ⟨_, rfl⟩
     replace H : (some y320) = some r := by first | (rw [hy320]; with_reducible exact H) | (have H2_ := (Option.bind_some _ _).symm.trans H; rw [hy320]; with_reducible exact H2_) | (have H2_ := (Option.bind_some _ _).symm.trans H; with_reducible exact H2_) | with_reducible exact H | (rw [hy320]; exact H) | exact H
     have Ny320 := Aside0.mk hy320
     clear hy320
     obtain rfl := Option.some.inj H
     have p319 : 0 ≤ ((ji3) : Int) := of_decide_eq_true zq0
     have q319 : (ji3) < (l0.length : Int) := of_decide_eq_true zq0
     obtain ⟨ad319, e319, hx319_0⟩ := Kd.at_int (Kd.V_reads' HO_0.out).2.2 (ji3) p319 q319
     cases e319
     replace p319 := eq_true p319
     replace q319 := eq_true q319
     have q9 : (x3_1 : Int) ≤ ((l0.length : Int) : Int) := of_decide_eq_true zq0
     obtain ⟨i09, hi09, _, hsz9, _⟩ := info_parts info86
     have hroom9 : l0.length ≤ c0 := (Kd.V_reads' HO_0.out).2.1
     have hC9 : Kd.F (Kd.int .u32) _ _ (some ad319) l0.length l0 := (Kd.V_at (base := w.heap.size) HO_0.out).2.2
     have hcut9 := cut_to (P := Tryd.prog) 74 86 .i64 Tryd.underlying74 hi09 (some ad319) l0.length c0 x3_1 (of_decide_eq_true zq0) q9 hroom9
     have hr9 := Kd.F_take (m := (x3_1 : Int).toNat) hC9 (by omega)
     have hy9 : y320.length = (x3_1 : Int).toNat := (by rw [Ny320.out, List.length_take]; omega)
     rw [← Ny320.out] at hr9
     rw [← hy9] at hcut9
     have HO324 := Aside0.mk (show Kd.V (Kd.int .u32) 86 _ w.heap.size _ (.slice (some ad319) y320.length c0) y320 from Kd.V_mk (by omega) hr9)
     have HC324 := Aside0.mk (show y320.length ≤ c0 from by omega)
     clear hr9 hC9 hroom9 hi09 hsz9
     have KY9 := Aside0.mk hy9
     clear hy9
     replace q9 := eq_true q9
     go_wp2
     go_ret
     exact ⟨_, by first | rfl | (simp [errW_none, errW_some] <;> rfl) | (simp only [← hji3]; first | rfl | (simp [errW_none, errW_some] <;> rfl)) | (simp [*, errW_none, errW_some] <;> rfl), by (with_reducible repeat (first | apply Kd.V_alloc | apply Kd.V_drewN | apply Kd.V_drew)); exact HO324.out, zH⟩
   ·rw [if_neg c2] at H
    have c2b0 := decide_eq_false c2
    clear c2
    replace H := of_ite H
    obtain ⟨c10, H⟩ := H
    have c10b0 := eq_true c10
    have c10b1 := decide_eq_true c10
    clear c10
    replace H := of_ite H
    obtain ⟨c11, H⟩ := H
    have c11b0 := eq_true c11
    have c11b1 := decide_eq_true c11
    clear c11
    obtain ⟨y325, hy325⟩ : ∃ y_ : List Int, y_ = (l0.take (x3_1 : Int).toNat) := ⟨_, rfl⟩
    replace H : (some y325) = some r := by first | (rw [hy325]; with_reducible exact H) | (have H2_ := (Option.bind_some _ _).symm.trans H; rw [hy325]; with_reducible exact H2_) | (have H2_ := (Option.bind_some _ _).symm.trans H; with_reducible exact H2_) | with_reducible exact H | (rw [hy325]; exact H) | exact H
    have Ny325 := Aside0.mk hy325
    clear hy325
    obtain rfl := Option.some.inj H
    have q12 : (x3_1 : Int) ≤ ((l0.length : Int) : Int) := of_decide_eq_true zq0
    obtain ⟨i012, hi012, _, hsz12, _⟩ := info_parts info86
    have hroom12 : l0.length ≤ c0 := (Kd.V_reads' HO_0.out).2.1
    have hC12 : Kd.F (Kd.int .u32) _ _ A0 l0.length l0 := (Kd.V_at (base := w.heap.size) HO_0.out).2.2
    have hcut12 := cut_to (P := Tryd.prog) 74 86 .i64 Tryd.underlying74 hi012 A0 l0.length c0 x3_1 (of_decide_eq_true zq0) q12 hroom12
    have hr12 := Kd.F_take (m := (x3_1 : Int).toNat) hC12 (by omega)
    have hy12 : y325.length = (x3_1 : Int).toNat := (by rw [Ny325.out, List.length_take]; omega)
    rw [← Ny325.out] at hr12
    rw [← hy12] at hcut12
    have HO329 := Aside0.mk (show Kd.V (Kd.int .u32) 86 _ w.heap.size _ (.slice A0 y325.length c0) y325 from Kd.V_mk (by omega) hr12)
    have HC329 := Aside0.mk (show y325.length ≤ c0 from by omega)
    clear hr12 hC12 hroom12 hi012 hsz12
    have KY12 := Aside0.mk hy12
    clear hy12
    replace q12 := eq_true q12
    go_wp2
    go_ret
    exact ⟨_, zE, by (with_reducible repeat (first | apply Kd.V_alloc | apply Kd.V_drewN | apply Kd.V_drew)); exact HO329.out, zH⟩
def R1text.l0 : Nat → List Int → List Int → Int → Option (ByteArray)
 | 0, _, _, _ => none
 | k + 1, x0, x3, x4 => if x4 ≥ 0 then (if 0 ≤ x4 then (if x4 < (x0.length : Int) then ((some (([((rd x0 x4) / 16777216) % 256, ((rd x0 x4) / 65536) % 256, ((rd x0 x4) / 256) % 256, (rd x0 x4) % 256] : List Int) : List Int)).bind fun y337 => (if x3.length + y337.length < 140737488355328 then (R1text.l0 k x0 (x3 ++ y337) (wrap64 (x4 - 1))) else (none))) else (none)) else (none)) else ((R1Normalize.f k (strOfNums x3)).bind fun t343 => (some t343))
def R1text.f (k : Nat) (l0 : List Int) : Option (ByteArray) := (R1strip.f k l0).bind fun t330 => (if 0 ≤ (wrap64 (4 * (t330.length : Int))) then (if (wrap64 (4 * (t330.length : Int)) : Int).toNat ≤ 281474976710656 then (R1text.l0 k t330 (([] : List Int)) (wrap64 ((t330.length : Int) - 1))) else (none)) else (none))
set_option maxHeartbeats 8000000 in
set_option maxRecDepth 100000 in
theorem R1text.calls (k : Nat) (A0 : Option Addr) (c0 : Nat) (l0 : List Int) (r : ByteArray) (w : World) (hr0 : Kd.C (Kd.int .u32) w A0 l0.length l0) (hc0 : l0.length ≤ c0) (h : R1text.f k l0 = some r) :
 Calls Tryd.prog 77 #[.slice A0 l0.length c0] w fun e w' => e = .returned (.string r) ∧ Below w.heap.size w w' := by
 have HR0 := Aside0.mk hr0
 have HC0 := Aside0.mk hc0
 clear hr0 hc0
 have HB := Aside0.mk (Below.refl w.heap.size w)
 have H : ((R1strip.f k l0).bind fun t330 => (if 0 ≤ (wrap64 (4 * (t330.length : Int))) then (if (wrap64 (4 * (t330.length : Int)) : Int).toNat ≤ 281474976710656 then (R1text.l0 k t330 (([] : List Int)) (wrap64 ((t330.length : Int) - 1))) else (none)) else (none))) = some r := h
 clear h
 replace H := Option.bind_eq_some_iff.mp H
 obtain ⟨t330, A20, H⟩ := H
 (try dsimp only at H)
 have A2 := Aside0.mk A20
 clear A20
 obtain ⟨ji3, hji3⟩ : ∃ j_ : Int, (wrap64 (4 * (t330.length : Int))) = j_ := ⟨_, rfl⟩
 first | rw [hji3] at H | simp only [hji3] at H
 (try rw [hji3] at A2)
 have hji3w : (IntKind.i64.wrap (4 * (t330.length : Int))) = ji3 := (i64_w _).trans hji3
 replace H := of_ite H
 obtain ⟨c4, H⟩ := H
 have c4b0 := eq_true c4
 have c4b1 := decide_eq_true c4
 clear c4
 replace H := of_ite H
 obtain ⟨c5, H⟩ := H
 have c5b0 := eq_true c5
 have c5b1 := decide_eq_true c5
 clear c5
 obtain ⟨y333, hy333⟩ : ∃ y_ : List Int, y_ = (([] : List Int)) := ⟨_, rfl⟩
 replace H : (R1text.l0 k t330 y333 (wrap64 ((t330.length : Int) - 1))) = some r := by first | (rw [hy333]; with_reducible exact H) | (have H2_ := (Option.bind_some _ _).symm.trans H; rw [hy333]; with_reducible exact H2_) | (have H2_ := (Option.bind_some _ _).symm.trans H; with_reducible exact H2_) | with_reducible exact H | (rw [hy333]; exact H) | exact H
 have Ny333 := Aside0.mk hy333
 clear hy333
 have H' := Aside0.mk H
 clear H
 go_enter Tryd.func77, Tryd.ntmps77
 go_wp2_with (first | (refine goesLA 7 Tryd.func78 #[.slice A0 l0.length c0] ?_; (with_reducible refine (R1strip.calls k (fun k_ => k_ < w.heap.size) _ _ l0 t330 _ ?side1 A2.out).mono ?_); (case side1 => exact Kd.V_mk HC0.out (Kd.F_below (Kd.C_F (Kd.heap_int .u32) HR0.out) zH)); rintro e w6 ⟨v331, rfl, ho0, hb⟩; refine ⟨_, rfl, ?_⟩; have n0_ := Aside0.mk (Kd.V_lower (Kd.V_mono (ok' := fun k_ => True) ho0 (fun k_ hk_ => trivial)) (below_size zH)); have n1_ := sB hb; revert n0_ n1_; clear HB; intro HO332 HB; (try clear hb); (try clear hb2); (try clear hk); (try clear hi); (try clear ho0); obtain ⟨Ao7, co7, eo7⟩ := Kd.V_slice HO332.out; subst eo7) | ((with_reducible refine gate_dst (N := 11) rfl ?_); refine Kd.R_makecap (Kd.int .u8) _ 5 rfl (N := 11) rfl 100 _ _ rfl ji3 rfl rfl Tryd.underlying100 (.int .u8 0) 1 info5 rfl (by decide) (by omega) (ok := fun _ => True) (okp := fun _ => True) (fun _ hk => hk) trivial (of_decide_eq_true zq0) (Nat.le_trans (Nat.mul_le_mul_right _ (of_decide_eq_true zq0 : ji3.toNat ≤ 281474976710656)) (by omega)) (Below.refl _ _) (Nat.le_refl _) ?_; intro v334 w8 ho9 hb hg_ hnew_; clear hg_ hnew_; (first | rw [← Ny333.out] at ho9 | (simp only [Int.reduceToNat] at ho9; rw [← Ny333.out] at ho9)); have n0_ := Aside0.mk (Kd.V_elder' (by (with_reducible repeat (first | apply Kd.V_alloc | apply Kd.V_drewN | apply Kd.V_drew)); exact HO332.out) (Kd.R_base ho9) hb); have n1_ := Aside0.mk (Kd.R_lower ho9 (below_size zH)); have n2_ := sB hb; revert n0_ n1_ n2_; clear HO332 HB; intro HO332 HO335 HB; clear hb ho9))
 go_loopg [3, 4] k (fun kq v3 v4 w' => ∃ (x3_1 : List Int) (x4_1 : Int), v4 = .int .i64 x4_1 ∧ Aside0 (R1text.l0 kq t330 x3_1 x4_1 = some r) ∧ Aside0 (kq ≤ k) ∧ Aside0 (Kd.V (Kd.int .u32) 86 w' w.heap.size (fun k_ => some k_ ≠ (v3 : Value).ownBlock) (.slice Ao7 t330.length co7) t330) ∧ Aside0 (Kd.R (Kd.int .u8) 5 w' w.heap.size (fun _ => True) v3 x3_1) ∧ Aside0 (Below w.heap.size w w'))
 case atStart => exact ⟨(y333), (wrap64 ((t330.length : Int) - 1)), zq1, H', ⟨Nat.le_refl _⟩, ⟨by (with_reducible repeat (first | apply Kd.V_alloc | apply Kd.V_drewN | apply Kd.V_drew)); exact Kd.V_mono HO332.out (fun _ hk => hk.2)⟩, ⟨by (with_reducible repeat (first | apply Kd.R_alloc | apply Kd.R_drewN | apply Kd.R_drew)); exact HO335.out⟩, ⟨zH⟩⟩
 case round =>
  clear H'
  (try clear p2); (try clear c4); (try clear c4b0); (try clear c4b1); (try clear c5); (try clear c5b0); (try clear c5b1); (try clear p6); (try clear c7)
  obtain ⟨x3_1, x4_1, rfl, HA, HK1, HO_0, HO_3, HB⟩ := hrel
  cases gk with
  | zero => exact absurd HA.out (by simp [R1text.l0])
  | succ k1 =>
   have H := HA.out
   clear HA
   simp only [R1text.l0] at H
   by_cases c10 : x4_1 ≥ 0
   ·rw [if_pos c10] at H
    have c10b0 := decide_eq_true c10
    clear c10
    replace H := of_ite H
    obtain ⟨c11, H⟩ := H
    have c11b0 := decide_eq_true c11
    clear c11
    replace H := of_ite H
    obtain ⟨c12, H⟩ := H
    have c12b0 := decide_eq_true c12
    clear c12
    obtain ⟨y337, hy337⟩ : ∃ y_ : List Int, y_ = (([((rd t330 x4_1) / 16777216) % 256, ((rd t330 x4_1) / 65536) % 256, ((rd t330 x4_1) / 256) % 256, (rd t330 x4_1) % 256] : List Int)) := ⟨_, rfl⟩
    replace H : (if x3_1.length + y337.length < 140737488355328 then (R1text.l0 k1 t330 (x3_1 ++ y337) (wrap64 (x4_1 - 1))) else (none)) = some r := by first | (rw [hy337]; with_reducible exact H) | (have H2_ := (Option.bind_some _ _).symm.trans H; rw [hy337]; with_reducible exact H2_) | (have H2_ := (Option.bind_some _ _).symm.trans H; with_reducible exact H2_) | with_reducible exact H | (rw [hy337]; exact H) | exact H
    have Ny337 := Aside0.mk hy337
    clear hy337
    replace H := of_ite H
    obtain ⟨c13, H⟩ := H
    have LMc13 := Aside0.mk c13
    clear c13
    obtain ⟨y340, hy340⟩ : ∃ y_ : List Int, y_ = (x3_1 ++ y337) := ⟨_, rfl⟩
    replace H : (R1text.l0 k1 t330 y340 (wrap64 (x4_1 - 1))) = some r := by first | (rw [hy340]; with_reducible exact H) | (have H2_ := (Option.bind_some _ _).symm.trans H; rw [hy340]; with_reducible exact H2_) | (have H2_ := (Option.bind_some _ _).symm.trans H; with_reducible exact H2_) | with_reducible exact H | (rw [hy340]; exact H) | exact H
    have Ny340 := Aside0.mk hy340
    clear hy340
    have H' := Aside0.mk H
    clear H
    have p336 : 0 ≤ (x4_1 : Int) := of_decide_eq_true zq0
    have q336 : x4_1 < (t330.length : Int) := of_decide_eq_true zq0
    obtain ⟨ad336, e336, hx336_0⟩ := Kd.at_int (Kd.V_reads' HO_0.out).2.2 x4_1 p336 q336
    cases e336
    replace p336 := eq_true p336
    replace q336 := eq_true q336
    go_wp2_with (first | ((with_reducible refine gate_dst (N := 35) rfl ?_); refine Kd.R_lit (Kd.int .u8) _ 5 ?hg (N := 35) ?hd (xs := ([((rd t330 x4_1) / 16777216) % 256, ((rd t330 x4_1) / 65536) % 256, ((rd t330 x4_1) / 256) % 256, (rd t330 x4_1) % 256] : List Int)) (inner := [.int .u8 (((rd t330 x4_1) / 16777216) % 256), .int .u8 (((rd t330 x4_1) / 65536) % 256), .int .u8 (((rd t330 x4_1) / 256) % 256), .int .u8 ((rd t330 x4_1) % 256)]) (ok := fun _ => True) (okp := fun _ => True) ?hr ?hp (fun _ hk => hk) trivial (Below.refl _ _) (Nat.le_refl _) (by simp) ?_; (case hd => rfl); (case hg => rfl); (case hr => first | (go_simp; done) | (go_simp; rfl)); (case hp => exact (Reps.one (show Kd.M (Kd.int .u8) _ _ _ (((rd t330 x4_1) / 16777216) % 256) [.int .u8 (((rd t330 x4_1) / 16777216) % 256)] from rfl) (Reps.one (show Kd.M (Kd.int .u8) _ _ _ (((rd t330 x4_1) / 65536) % 256) [.int .u8 (((rd t330 x4_1) / 65536) % 256)] from rfl) (Reps.one (show Kd.M (Kd.int .u8) _ _ _ (((rd t330 x4_1) / 256) % 256) [.int .u8 (((rd t330 x4_1) / 256) % 256)] from rfl) (Reps.one (show Kd.M (Kd.int .u8) _ _ _ ((rd t330 x4_1) % 256) [.int .u8 ((rd t330 x4_1) % 256)] from rfl) (Reps.none _ _)))))); intro v338 w14 ho15 hb hg_ hnew_; clear hg_ hnew_; (first | rw [← Ny337.out] at ho15 | (simp only [Int.reduceToNat] at ho15; rw [← Ny337.out] at ho15)); have n0_ := Aside0.mk (Kd.V_elder' (by (with_reducible repeat (first | apply Kd.V_alloc | apply Kd.V_drewN | apply Kd.V_drew)); exact HO_0.out) (Kd.R_base ho15) hb); have n1_ := Aside0.mk (Kd.R_elder' zq39 (Kd.R_base ho15) hb); have n2_ := Aside0.mk (Kd.R_lower (Kd.R_new' ho15 (Kd.R_lt zq39)) (below_size zH)); have n3_ := sB hb; revert n0_ n1_ n2_ n3_; clear HO_0 HO_3 HB; intro HO_0 HO_3 HO339 HB; clear hb ho15; obtain ⟨Ao17, co17, eo17⟩ := Kd.R_slice HO339.out; subst eo17) | ((with_reducible refine gate_builtin (b := .append) (xs := #[.tmp 23, .tmp 35]) rfl ?_); at_builtin; refine Kd.R_append_rows (Kd.int .u8) (w0 := w) w.heap.size rfl (.tmp 23) (.tmp 35) 100 5 (.int .u8 0) 1 rfl Tryd.underlying100 info5 rfl (by decide) (by omega) u3 x3_1 y337 _ _ _ (fun k_ => some k_ ≠ (.slice Ao17 y337.length co17 : Value).ownBlock) (fun _ => False) rfl rfl ?aO ?aR (fun _ _ h => h) (fun _ h => h.elim) ?aF ?aB ?aS ?aL ?_; (case aR => repeat (first | exact (Kd.R_reads' HO339.out).2.2 | (with_reducible refine Kd.C_alloc ?_ _) | (with_reducible refine Kd.C_drewN ?_ _) | (with_reducible refine Kd.C_drew ?_))); (case aB => exact zH); (case aF => exact (fun k_ hk => Kd.fresh' (Kd.R_lt (by (with_reducible repeat (first | apply Kd.R_alloc | apply Kd.R_drewN | apply Kd.R_drew)); exact HO339.out)) k_ hk)); (case aO => exact (by (with_reducible repeat (first | apply Kd.R_alloc | apply Kd.R_drewN | apply Kd.R_drew)); exact Kd.R_mono HO_3.out (fun _ hk => hk.2))); (case aS => exact (below_size zH)); (case aL => have := LMc13.out; omega); intro v341 w16 ho hb hg hat; rw [← Ny340.out] at ho; have n0_ := Aside0.mk (Kd.V_afterv (ok := (fun k_ => some k_ ≠ (.slice Ao17 y337.length co17 : Value).ownBlock)) (by (with_reducible repeat (first | apply Kd.V_alloc | apply Kd.V_drewN | apply Kd.V_drew)); exact Kd.V_mono HO_0.out (fun _ hk => ⟨hk.2, hk.1⟩)) hg hat); have n1_ := Aside0.mk (Kd.R_after (ok := (fun _ => True)) (by (with_reducible repeat (first | apply Kd.R_alloc | apply Kd.R_drewN | apply Kd.R_drew)); exact HO339.out) hg hat); have n2_ := Aside0.mk (hb); have n3_ := Aside0.mk (ho); revert n0_ n1_ n2_ n3_; clear HO_0 HO339 HB HO_3; intro HO_0 HO339 HB HO342; clear ho hb hg hat))
    go_roundg k1
    case measure => have := HK1.out; omega
    case rel => exact ⟨(y340), (wrap64 (x4_1 - 1)), zq1, H', ⟨by have := HK1.out; omega⟩, ⟨by (with_reducible repeat (first | apply Kd.V_alloc | apply Kd.V_drewN | apply Kd.V_drew)); exact Kd.V_mono HO_0.out (fun _ hk => hk.2)⟩, ⟨by (with_reducible repeat (first | apply Kd.R_alloc | apply Kd.R_drewN | apply Kd.R_drew)); exact Kd.R_mono HO342.out (fun _ hk => trivial)⟩, ⟨zH⟩⟩
   ·rw [if_neg c10] at H
    have c10b0 := decide_eq_false c10
    clear c10
    replace H := Option.bind_eq_some_iff.mp H
    obtain ⟨t343, A180, H⟩ := H
    (try dsimp only at H)
    have A18 := Aside0.mk A180
    clear A180
    obtain rfl := Option.some.inj H
    have hcv19 := own_string (P := Tryd.prog) Tryd.underlying100 Tryd.underlying5 Tryd.underlying9 (Kd.own_of_R HO_3.out)
    go_wp2_with (first | (refine goesLA 39 Tryd.func79 #[.string (strOfNums x3_1)] ?_; (with_reducible refine (R1Normalize.calls k1 (strOfNums x3_1) t343 _ A18.out).mono ?_); rintro e w' ⟨rfl, ⟨nd, rfl⟩⟩; refine ⟨_, rfl, ?_⟩))
    go_ret
    exact ⟨by first | rfl | (simp [errW_none, errW_some] <;> rfl) | (simp only [← hji3]; first | rfl | (simp [errW_none, errW_some] <;> rfl)) | (simp [*, errW_none, errW_some] <;> rfl), zH⟩
end Go.Proofs.YtggfilmdfpmbmaaDoor.QN
end
section
namespace Go.Proofs.YtggfilmdfpmbmaaDoor.QN
open Go.RowKit Go.Proofs.YtggfilmdfpmbmaaDoorW.PrintWords Go.Proofs.YtggfilmdfpmbmaaDoorW.PrintLast Go.Proofs.YtggfilmdfpmbmaaDoorW.PrintMore
attribute [local go_sem] max2_int min2_int max_two min_two max_three min_three max_four min_four   -- for this text's walks alone
set_option linter.unusedVariables false
set_option linter.unusedSimpArgs false
def R1order.l0 : Nat → List Int → List Int → Int → Option (Int)
 | 0, _, _, _ => none
 | k + 1, x0, x1, x5 => if x5 ≥ 0 then (if 0 ≤ x5 then (if x5 < (x0.length : Int) then (if x5 < (x1.length : Int) then (if (rd x0 x5) = (rd x1 x5) then (R1order.l0 k x0 x1 (wrap64 (x5 - 1))) else (if (rd x0 x5) < (rd x1 x5) then (some (-1)) else (some 1))) else (none)) else (none)) else (none)) else (some 0)
def R1order.f (k : Nat) (l0 : List Int) (l1 : List Int) : Option (Int) := if (l0.length : Int) = (l1.length : Int) then (R1order.l0 k l0 l1 (wrap64 ((l0.length : Int) - 1))) else (if (l0.length : Int) < (l1.length : Int) then (some (-1)) else (some 1))
set_option maxHeartbeats 8000000 in
set_option maxRecDepth 100000 in
theorem R1order.calls (k : Nat) (A0 : Option Addr) (c0 : Nat) (l0 : List Int) (A1 : Option Addr) (c1 : Nat) (l1 : List Int) (r : Int) (w : World) (hr0 : Kd.C (Kd.int .u32) w A0 l0.length l0) (hc0 : l0.length ≤ c0) (hr1 : Kd.C (Kd.int .u32) w A1 l1.length l1) (hc1 : l1.length ≤ c1) (h : R1order.f k l0 l1 = some r) :
 Calls Tryd.prog 82 #[.slice A0 l0.length c0, .slice A1 l1.length c1] w fun e w' => e = .returned (.int .i64 r) ∧ Drawn0 w w' := by
 have HR0 := Aside0.mk hr0
 have HC0 := Aside0.mk hc0
 clear hr0 hc0
 have HR1 := Aside0.mk hr1
 have HC1 := Aside0.mk hc1
 clear hr1 hc1
 have H : (if (l0.length : Int) = (l1.length : Int) then (R1order.l0 k l0 l1 (wrap64 ((l0.length : Int) - 1))) else (if (l0.length : Int) < (l1.length : Int) then (some (-1)) else (some 1))) = some r := h
 clear h
 by_cases c3 : (l0.length : Int) = (l1.length : Int)
 ·rw [if_pos c3] at H
  have c3b0 := beq_iff_eq.mpr c3
  have c3b1 : ((l0.length : Int) != (l1.length : Int)) = false := bne_eq_false_iff_eq.mpr c3
  have c3b2 : (l0.length == l1.length) = true := by first | simpa using c3 | (simp at c3 ⊢; omega)
  clear c3
  have H' := Aside0.mk H
  clear H
  go_enter Tryd.func82, Tryd.ntmps82
  go_wp2
  repeat (go_quiet (fail); try go_wp2)
  go_loopg [5] k (fun kq v5 w' => ∃ (x5_1 : Int), v5 = .int .i64 x5_1 ∧ Aside0 (R1order.l0 kq l0 l1 x5_1 = some r) ∧ Aside0 (kq ≤ k) ∧ Drawn0 w w')
  case atStart => exact ⟨(wrap64 ((l0.length : Int) - 1)), zq1, H', ⟨Nat.le_refl _⟩, by repeat (first | exact Drawn0.refl _ | apply Drawn0.step)⟩
  case round =>
   clear H'
   (try clear c1); (try clear p2); (try clear c3); (try clear c3b0); (try clear c3b1); (try clear c3b2)
   obtain ⟨x5_1, rfl, HA, HK1, ⟨m1, rfl⟩⟩ := hrel
   cases gk with
   | zero => exact absurd HA.out (by simp [R1order.l0])
   | succ k1 =>
    have H := HA.out
    clear HA
    simp only [R1order.l0] at H
    by_cases c4 : x5_1 ≥ 0
    ·rw [if_pos c4] at H
     have c4b0 := decide_eq_true c4
     clear c4
     replace H := of_ite H
     obtain ⟨c5, H⟩ := H
     have c5b0 := decide_eq_true c5
     clear c5
     replace H := of_ite H
     obtain ⟨c6, H⟩ := H
     have c6b0 := decide_eq_true c6
     clear c6
     replace H := of_ite H
     obtain ⟨c7, H⟩ := H
     have c7b0 := decide_eq_true c7
     clear c7
     by_cases c8 : (rd l0 x5_1) = (rd l1 x5_1)
     ·rw [if_pos c8] at H
      have c8b0 := beq_iff_eq.mpr c8
      have c8b1 : ((rd l0 x5_1) != (rd l1 x5_1)) = false := bne_eq_false_iff_eq.mpr c8
      clear c8
      have H' := Aside0.mk H
      clear H
      have p344 : 0 ≤ (x5_1 : Int) := of_decide_eq_true zq0
      have q344 : x5_1 < (l0.length : Int) := of_decide_eq_true zq0
      obtain ⟨ad344, e344, hx344_0⟩ := Kd.at_int HR0.out x5_1 p344 q344
      cases e344
      replace p344 := eq_true p344
      replace q344 := eq_true q344
      have p345 : 0 ≤ (x5_1 : Int) := of_decide_eq_true zq0
      have q345 : x5_1 < (l1.length : Int) := of_decide_eq_true zq0
      obtain ⟨ad345, e345, hx345_0⟩ := Kd.at_int HR1.out x5_1 p345 q345
      cases e345
      replace p345 := eq_true p345
      replace q345 := eq_true q345
      go_wp2
      repeat (go_quiet (fail); try go_wp2)
      go_roundg k1
      case measure => have := HK1.out; omega
      case rel => exact ⟨(wrap64 (x5_1 - 1)), zq1, H', ⟨by have := HK1.out; omega⟩, by repeat (first | exact Drawn0.refl _ | apply Drawn0.step)⟩
     ·rw [if_neg c8] at H
      have c8b0 := beq_eq_false_iff_ne.mpr c8
      have c8b1 := bne_iff_ne.mpr c8
      by_cases c9 : (rd l0 x5_1) < (rd l1 x5_1)
      ·rw [if_pos c9] at H
       have c9b0 := decide_eq_true c9
       clear c9
       obtain rfl := Option.some.inj H
       have p344 : 0 ≤ (x5_1 : Int) := of_decide_eq_true zq0
       have q344 : x5_1 < (l0.length : Int) := of_decide_eq_true zq0
       obtain ⟨ad344, e344, hx344_0⟩ := Kd.at_int HR0.out x5_1 p344 q344
       cases e344
       replace p344 := eq_true p344
       replace q344 := eq_true q344
       have p345 : 0 ≤ (x5_1 : Int) := of_decide_eq_true zq0
       have q345 : x5_1 < (l1.length : Int) := of_decide_eq_true zq0
       obtain ⟨ad345, e345, hx345_0⟩ := Kd.at_int HR1.out x5_1 p345 q345
       cases e345
       replace p345 := eq_true p345
       replace q345 := eq_true q345
       have p346 : 0 ≤ (x5_1 : Int) := of_decide_eq_true zq0
       have q346 : x5_1 < (l0.length : Int) := of_decide_eq_true zq0
       obtain ⟨ad346, e346, hx346_0⟩ := Kd.at_int HR0.out x5_1 p346 q346
       obtain rfl : ad344 = ad346 := (by injection e346)
       replace p346 := eq_true p346
       replace q346 := eq_true q346
       have p347 : 0 ≤ (x5_1 : Int) := of_decide_eq_true zq0
       have q347 : x5_1 < (l1.length : Int) := of_decide_eq_true zq0
       obtain ⟨ad347, e347, hx347_0⟩ := Kd.at_int HR1.out x5_1 p347 q347
       obtain rfl : ad345 = ad347 := (by injection e347)
       replace p347 := eq_true p347
       replace q347 := eq_true q347
       go_wp2
       repeat (go_quiet (fail); try go_wp2)
       go_ret
       exact ⟨by first | rfl | (simp; done) | (simp [*]; done), by repeat (first | exact Drawn0.refl _ | apply Drawn0.step)⟩
      ·rw [if_neg c9] at H
       have c9b0 := decide_eq_false c9
       clear c9
       obtain rfl := Option.some.inj H
       have p344 : 0 ≤ (x5_1 : Int) := of_decide_eq_true zq0
       have q344 : x5_1 < (l0.length : Int) := of_decide_eq_true zq0
       obtain ⟨ad344, e344, hx344_0⟩ := Kd.at_int HR0.out x5_1 p344 q344
       cases e344
       replace p344 := eq_true p344
       replace q344 := eq_true q344
       have p345 : 0 ≤ (x5_1 : Int) := of_decide_eq_true zq0
       have q345 : x5_1 < (l1.length : Int) := of_decide_eq_true zq0
       obtain ⟨ad345, e345, hx345_0⟩ := Kd.at_int HR1.out x5_1 p345 q345
       cases e345
       replace p345 := eq_true p345
       replace q345 := eq_true q345
       have p346 : 0 ≤ (x5_1 : Int) := of_decide_eq_true zq0
       have q346 : x5_1 < (l0.length : Int) := of_decide_eq_true zq0
       obtain ⟨ad346, e346, hx346_0⟩ := Kd.at_int HR0.out x5_1 p346 q346
       obtain rfl : ad344 = ad346 := (by injection e346)
       replace p346 := eq_true p346
       replace q346 := eq_true q346
       have p347 : 0 ≤ (x5_1 : Int) := of_decide_eq_true zq0
       have q347 : x5_1 < (l1.length : Int) := of_decide_eq_true zq0
       obtain ⟨ad347, e347, hx347_0⟩ := Kd.at_int HR1.out x5_1 p347 q347
       obtain rfl : ad345 = ad347 := (by injection e347)
       replace p347 := eq_true p347
       replace q347 := eq_true q347
       go_wp2
       repeat (go_quiet (fail); try go_wp2)
       go_ret
       exact ⟨by first | rfl | (simp; done) | (simp [*]; done), by repeat (first | exact Drawn0.refl _ | apply Drawn0.step)⟩
    ·rw [if_neg c4] at H
     have c4b0 := decide_eq_false c4
     clear c4
     obtain rfl := Option.some.inj H
     go_wp2
     repeat (go_quiet (fail); try go_wp2)
     go_ret
     exact ⟨by first | rfl | (simp; done) | (simp [*]; done), by repeat (first | exact Drawn0.refl _ | apply Drawn0.step)⟩
 ·rw [if_neg c3] at H
  have c3b0 := beq_eq_false_iff_ne.mpr c3
  have c3b1 := bne_iff_ne.mpr c3
  have c3b2 : (l0.length == l1.length) = false := by first | simpa using c3 | (simp at c3 ⊢; omega)
  by_cases c10 : (l0.length : Int) < (l1.length : Int)
  ·rw [if_pos c10] at H
   have c10b0 := decide_eq_true c10
   have c10b1 : decide (l0.length < l1.length) = true := decide_eq_true (Int.ofNat_lt.mp c10)
   clear c10
   obtain rfl := Option.some.inj H
   go_enter Tryd.func82, Tryd.ntmps82
   go_wp2
   repeat (go_quiet (fail); try go_wp2)
   go_ret
   exact ⟨by first | rfl | (simp; done) | (simp [*]; done), by repeat (first | exact Drawn0.refl _ | apply Drawn0.step)⟩
  ·rw [if_neg c10] at H
   have c10b0 := decide_eq_false c10
   have c10b1 : decide (l0.length < l1.length) = false := decide_eq_false (fun h => c10 (Int.ofNat_lt.mpr h))
   clear c10
   obtain rfl := Option.some.inj H
   go_enter Tryd.func82, Tryd.ntmps82
   go_wp2
   repeat (go_quiet (fail); try go_wp2)
   go_ret
   exact ⟨by first | rfl | (simp; done) | (simp [*]; done), by repeat (first | exact Drawn0.refl _ | apply Drawn0.step)⟩
def R1short.l0 : Nat → List Int → Int → List Int → Int → Int → Option (List Int × Int)
 | 0, _, _, _, _, _ => none
 | k + 1, x0, x1, x6, x7, x8 => if x8 ≥ 0 then (if 0 ≤ x8 then (if x8 < (x0.length : Int) then (if (IntKind.u64.wrap (x1)) = 0 then (none) else (if x8 < (x6.length : Int) then (R1short.l0 k x0 x1 (x6.set (x8 : Int).toNat ((IntKind.u64.wrap (Int.tdiv (Go.bits .or .u64 (IntKind.u64.wrap (x7 * 4294967296)) (IntKind.u64.wrap (rd x0 x8))) (IntKind.u64.wrap (x1)))) % 4294967296)) (Int.tmod (Go.bits .or .u64 (IntKind.u64.wrap (x7 * 4294967296)) (IntKind.u64.wrap (rd x0 x8))) (IntKind.u64.wrap (x1))) (wrap64 (x8 - 1))) else (none))) else (none)) else (none)) else ((R1strip.f k x6).bind fun t353 => (some (t353, (x7) % 4294967296)))
def R1short.f (k : Nat) (l0 : List Int) (a1 : Int) : Option (List Int × Int) := if 0 ≤ (l0.length : Int) then (if ((l0.length : Int) : Int).toNat ≤ 70368744177664 then (R1short.l0 k l0 a1 (List.replicate ((l0.length : Int) : Int).toNat 0) 0 (wrap64 ((l0.length : Int) - 1))) else (none)) else (none)
set_option maxHeartbeats 8000000 in
set_option maxRecDepth 100000 in
theorem R1short.calls (k : Nat) (A0 : Option Addr) (c0 : Nat) (l0 : List Int) (a1 : Int) (r1 : List Int) (r2 : Int) (w : World) (hr0 : Kd.C (Kd.int .u32) w A0 l0.length l0) (hc0 : l0.length ≤ c0) (h : R1short.f k l0 a1 = some (r1, r2)) :
 Calls Tryd.prog 91 #[.slice A0 l0.length c0, .int .u32 a1] w fun e w' => ∃ v0_ : Value, e = .returned (.tuple #[v0_, .int .u32 r2]) ∧ Kd.V (Kd.int .u32) 86 w' w.heap.size (fun k_ => (w.heap.size ≤ k_)) v0_ r1 ∧ Below w.heap.size w w' := by
 have HR0 := Aside0.mk hr0
 have HC0 := Aside0.mk hc0
 clear hr0 hc0
 have HB := Aside0.mk (Below.refl w.heap.size w)
 have H : (if 0 ≤ (l0.length : Int) then (if ((l0.length : Int) : Int).toNat ≤ 70368744177664 then (R1short.l0 k l0 a1 (List.replicate ((l0.length : Int) : Int).toNat 0) 0 (wrap64 ((l0.length : Int) - 1))) else (none)) else (none)) = some (r1, r2) := h
 clear h
 replace H := of_ite H
 obtain ⟨c3, H⟩ := H
 have c3b0 := eq_true c3
 have c3b1 := decide_eq_true c3
 clear c3
 replace H := of_ite H
 obtain ⟨c4, H⟩ := H
 have c4b0 := eq_true c4
 have c4b1 := decide_eq_true c4
 clear c4
 obtain ⟨y348, hy348⟩ : ∃ y_ : List Int, y_ = (List.replicate ((l0.length : Int) : Int).toNat 0) := ⟨_, rfl⟩
 replace H : (R1short.l0 k l0 a1 y348 0 (wrap64 ((l0.length : Int) - 1))) = some (r1, r2) := by first | (rw [hy348]; with_reducible exact H) | (have H2_ := (Option.bind_some _ _).symm.trans H; rw [hy348]; with_reducible exact H2_) | (have H2_ := (Option.bind_some _ _).symm.trans H; with_reducible exact H2_) | with_reducible exact H | (rw [hy348]; exact H) | exact H
 have Ny348 := Aside0.mk hy348
 clear hy348
 have H' := Aside0.mk H
 clear H
 go_enter Tryd.func91, Tryd.ntmps91
 go_wp2_with (first | ((with_reducible refine gate_dst (N := 11) rfl ?_); refine Kd.R_make (Kd.int .u32) _ 86 rfl (N := 11) rfl 74 _ _ rfl (l0.length : Int) rfl rfl Tryd.underlying74 (.int .u32 0) 4 info86 rfl (by decide) (by omega) 0 (ok := fun _ => True) (okp := fun _ => True) rfl (fun _ hk => hk) trivial (of_decide_eq_true zq0) (Nat.le_trans (Nat.mul_le_mul_right _ (of_decide_eq_true zq0 : (l0.length : Int).toNat ≤ 70368744177664)) (by omega)) (Below.refl _ _) (Nat.le_refl _) ?_; intro v349 w5 ho6 hb hg_ hnew_; clear hg_ hnew_; (first | rw [← Ny348.out] at ho6 | (simp only [Int.reduceToNat] at ho6; rw [← Ny348.out] at ho6)); have n0_ := Aside0.mk (Kd.R_lower (Kd.R_newM (M := fun k_ => (w.heap.size ≤ k_)) ho6 (below_size zH) (fun k_ h_ => h_)) (below_size zH)); have n1_ := sB hb; revert n0_ n1_; clear HB; intro HO350 HB; clear hb ho6))
 go_loopg [7, 8] k (fun kq v7 v8 w' => ∃ (x6_1 : List Int) (x7_1 : Int) (x8_1 : Int), v7 = .int .u64 x7_1 ∧ v8 = .int .i64 x8_1 ∧ Aside0 (R1short.l0 kq l0 a1 x6_1 x7_1 x8_1 = some (r1, r2)) ∧ Aside0 (kq ≤ k) ∧ Aside0 (Kd.R (Kd.int .u32) 86 w' w.heap.size (fun k_ => (w.heap.size ≤ k_)) v349 x6_1) ∧ Aside0 (Below w.heap.size w w'))
 case atStart => exact ⟨(y348), (0), (wrap64 ((l0.length : Int) - 1)), zq1, zq1, H', ⟨Nat.le_refl _⟩, ⟨by (with_reducible repeat (first | apply Kd.R_alloc | apply Kd.R_drewN | apply Kd.R_drew)); exact Kd.R_mono HO350.out (fun _ hk => hk.1)⟩, ⟨zH⟩⟩
 case round =>
  clear H'
  (try clear p2); (try clear c3); (try clear c3b0); (try clear c3b1); (try clear c4); (try clear c4b0); (try clear c4b1); (try clear p6)
  obtain ⟨x6_1, x7_1, x8_1, rfl, rfl, HA, HK1, HO_6, HB⟩ := hrel
  cases gk with
  | zero => exact absurd HA.out (by simp [R1short.l0])
  | succ k1 =>
   have H := HA.out
   clear HA
   simp only [R1short.l0] at H
   by_cases c7 : x8_1 ≥ 0
   ·rw [if_pos c7] at H
    have c7b0 := decide_eq_true c7
    clear c7
    replace H := of_ite H
    obtain ⟨c8, H⟩ := H
    have c8b0 := decide_eq_true c8
    clear c8
    replace H := of_ite H
    obtain ⟨c9, H⟩ := H
    have c9b0 := decide_eq_true c9
    clear c9
    by_cases c10 : (IntKind.u64.wrap (a1)) = 0
    ·rw [if_pos c10] at H
     exact absurd H (by simp)
    ·rw [if_neg c10] at H
     have c10b0 := beq_eq_false_iff_ne.mpr c10
     have c10b1 := bne_iff_ne.mpr c10
     replace H := of_ite H
     obtain ⟨c11, H⟩ := H
     have c11b0 := decide_eq_true c11
     clear c11
     obtain ⟨y352, hy352⟩ : ∃ y_ : List Int, y_ = (x6_1.set (x8_1 : Int).toNat ((IntKind.u64.wrap (Int.tdiv (Go.bits .or .u64 (IntKind.u64.wrap (x7_1 * 4294967296)) (IntKind.u64.wrap (rd l0 x8_1))) (IntKind.u64.wrap (a1)))) % 4294967296)) := ⟨_, rfl⟩
     replace H : (R1short.l0 k1 l0 a1 y352 (Int.tmod (Go.bits .or .u64 (IntKind.u64.wrap (x7_1 * 4294967296)) (IntKind.u64.wrap (rd l0 x8_1))) (IntKind.u64.wrap (a1))) (wrap64 (x8_1 - 1))) = some (r1, r2) := by first | (rw [hy352]; with_reducible exact H) | (have H2_ := (Option.bind_some _ _).symm.trans H; rw [hy352]; with_reducible exact H2_) | (have H2_ := (Option.bind_some _ _).symm.trans H; with_reducible exact H2_) | with_reducible exact H | (rw [hy352]; exact H) | exact H
     have Ny352 := Aside0.mk hy352
     clear hy352
     have H' := Aside0.mk H
     clear H
     have p351 : 0 ≤ (x8_1 : Int) := of_decide_eq_true zq0
     have q351 : x8_1 < (l0.length : Int) := of_decide_eq_true zq0
     obtain ⟨ad351, e351, hx351_0⟩ := Kd.at_int HR0.out x8_1 p351 q351
     cases e351
     (try replace hx351_0 := (HB.out.cell (World.block_lt_of_cell? w _ hx351_0)).trans hx351_0)
     replace p351 := eq_true p351
     replace q351 := eq_true q351
     have p12 : 0 ≤ (x8_1 : Int) := of_decide_eq_true zq0
     have q12 : (x8_1 : Int) < ((x6_1.length : Int) : Int) := of_decide_eq_true zq0
     obtain ⟨go12, co12, eo12, gb12, gl12, cl12, HG12⟩ := Kd.R_form HO_6.out (by omega)
     (first | cases eo12 | (injection eo12 with ea_ en_ ec_; (first | subst ea_ | (injection ea_ with ea_; subst ea_)); subst ec_; clear en_))
     have GB12 := Aside0.mk gb12
     have GG12 := Aside0.mk HG12
     clear gb12 gl12 HG12
     obtain ⟨hx12_0, hf12_0⟩ := Kd.R_celln 0 HO_6.out (x8_1 : Int) p12 q12
     (try simp only [Go.IntWalk.toNatUp] at hx12_0 hf12_0)
     replace p12 := eq_true p12
     replace q12 := eq_true q12
     have HP13 := Kd.R_putg HO_6.out (x8_1 : Int) ((IntKind.u64.wrap (Int.tdiv (Go.bits .or .u64 (IntKind.u64.wrap (x7_1 * 4294967296)) (IntKind.u64.wrap (rd l0 x8_1))) (IntKind.u64.wrap (a1)))) % 4294967296)
     go_wp2_with (first | ((with_reducible refine gate_store (t := 86) (p := 34) rfl ?_); refine store_event (t := 86) (p := 34) (v := ?vo_w14) (w1 := (wr.setCell ⟨go12, (x8_1 : Int).toNat, none⟩ (.int .u32 ((IntKind.u64.wrap (Int.tdiv (Go.bits .or .u64 (IntKind.u64.wrap (x7_1 * 4294967296)) (IntKind.u64.wrap (rd l0 x8_1))) (IntKind.u64.wrap (a1)))) % 4294967296)))) ?hg ?ho ?hn ?hr ?_; (case ho => rfl); (case hg => rfl); (case hn => rfl); (case hr => first | (go_simp; done) | (go_simp; rfl)); intro w14 hw; have hg : wr.grownBy w14 (some go12) := (by rw [hw]; exact HP13.2); have hp_ : Kd.R (Kd.int .u32) 86 w14 w.heap.size (fun k_ => (w.heap.size ≤ k_)) (.slice (some ⟨go12, 0, none⟩) x6_1.length co12) y352 := (by rw [hw, Ny352.out]; exact HP13.1); clear HP13; have n0_ := Aside0.mk (hp_); have n1_ := Aside0.mk ((by rw [hw]; exact below_set (HB.out) GB12.out : Below w.heap.size w w14)); revert n0_ n1_; clear HO_6 HB; intro HO_6 HB; clear hg hw hp_))
     go_roundg k1
     case measure => have := HK1.out; omega
     case rel => exact ⟨(y352), (Int.tmod (Go.bits .or .u64 (IntKind.u64.wrap (x7_1 * 4294967296)) (IntKind.u64.wrap (rd l0 x8_1))) (IntKind.u64.wrap (a1))), (wrap64 (x8_1 - 1)), zq1, zq1, H', ⟨by have := HK1.out; omega⟩, ⟨by (with_reducible repeat (first | apply Kd.R_alloc | apply Kd.R_drewN | apply Kd.R_drew)); exact HO_6.out⟩, ⟨zH⟩⟩
   ·rw [if_neg c7] at H
    have c7b0 := decide_eq_false c7
    clear c7
    replace H := Option.bind_eq_some_iff.mp H
    obtain ⟨t353, A150, H⟩ := H
    (try dsimp only at H)
    have A15 := Aside0.mk A150
    clear A150
    simp only [Option.some.injEq, Prod.mk.injEq] at H
    obtain ⟨rfl, rfl⟩ := H
    obtain ⟨Ao16, co16, eo16⟩ := Kd.R_slice HO_6.out
    subst eo16
    go_wp2_with (first | (refine goesLA 40 Tryd.func78 #[.slice Ao16 x6_1.length co16] ?_; (with_reducible refine (R1strip.calls k1 (fun k_ => some k_ = (.slice Ao16 x6_1.length co16 : Value).ownBlock) _ _ x6_1 t353 _ ?side1 A15.out).mono ?_); (case side1 => exact Kd.R_V (Kd.R_tight rfl (HO_6.out))); rintro e w17 ⟨v354, rfl, ho0, hb⟩; refine ⟨_, rfl, ?_⟩; have n0_ := Aside0.mk (Kd.R_below (by (with_reducible repeat (first | apply Kd.R_alloc | apply Kd.R_drewN | apply Kd.R_drew)); exact HO_6.out) hb); have n1_ := Aside0.mk (Kd.V_lower (Kd.V_mono (ok' := fun k_ => (w.heap.size ≤ k_)) ho0 (fun k_ hk_ => Or.elim hk_ (fun hs_ => ((HO_6.out).1 k_ hs_.symm)) (fun hn_ => (Nat.le_trans (below_size zH) hn_)))) (below_size zH)); have n2_ := sB hb; revert n0_ n1_ n2_; clear HO_6 HB; intro HO_6 HO355 HB; (try clear hb); (try clear hb2); (try clear hk); (try clear hi); (try clear ho0)))
    go_ret2
    exact ⟨_, zE, by (with_reducible repeat (first | apply Kd.V_alloc | apply Kd.V_drewN | apply Kd.V_drew)); exact HO355.out, zH⟩
def R1shifted.l0 : Nat → List Int → Int → List Int → Int → Option (List Int)
 | 0, _, _, _, _ => none
 | k + 1, x0, x1, x5, x6 => if x6 < (x0.length : Int) then (if 0 ≤ x6 then (if 0 ≤ x1 then (if x1 ≤ 64 then (if x6 < (x5.length : Int) then (if 0 ≤ (wrap64 (x6 + 1)) then (if (wrap64 (x6 + 1)) < (x5.length : Int) then (R1shifted.l0 k x0 x1 ((x5.set (x6 : Int).toNat (Go.bits .or .u32 (rd x5 x6) ((IntKind.u64.wrap ((IntKind.u64.wrap (rd x0 x6)) * 2 ^ x1.toNat)) % 4294967296))).set ((wrap64 (x6 + 1)) : Int).toNat (((IntKind.u64.wrap ((IntKind.u64.wrap (rd x0 x6)) * 2 ^ x1.toNat)) / 4294967296) % 4294967296)) (wrap64 (x6 + 1))) else (none)) else (none)) else (none)) else (none)) else (none)) else (none)) else (some x5)
def R1shifted.f (k : Nat) (l0 : List Int) (a1 : Int) : Option (List Int) := if 0 ≤ (wrap64 ((l0.length : Int) + 1)) then (if (wrap64 ((l0.length : Int) + 1) : Int).toNat ≤ 70368744177664 then (R1shifted.l0 k l0 a1 (List.replicate (wrap64 ((l0.length : Int) + 1) : Int).toNat 0) 0) else (none)) else (none)
set_option maxHeartbeats 8000000 in
set_option maxRecDepth 100000 in
theorem R1shifted.calls (k : Nat) (A0 : Option Addr) (c0 : Nat) (l0 : List Int) (a1 : Int) (r : List Int) (w : World) (hr0 : Kd.C (Kd.int .u32) w A0 l0.length l0) (hc0 : l0.length ≤ c0) (h : R1shifted.f k l0 a1 = some r) :
 Calls Tryd.prog 104 #[.slice A0 l0.length c0, .int .u64 a1] w fun e w' => ∃ v0_ : Value, e = .returned (v0_) ∧ Kd.R (Kd.int .u32) 86 w' w.heap.size (fun _ => True) v0_ r ∧ Below w.heap.size w w' := by
 have HR0 := Aside0.mk hr0
 have HC0 := Aside0.mk hc0
 clear hr0 hc0
 have HB := Aside0.mk (Below.refl w.heap.size w)
 have H : (if 0 ≤ (wrap64 ((l0.length : Int) + 1)) then (if (wrap64 ((l0.length : Int) + 1) : Int).toNat ≤ 70368744177664 then (R1shifted.l0 k l0 a1 (List.replicate (wrap64 ((l0.length : Int) + 1) : Int).toNat 0) 0) else (none)) else (none)) = some r := h
 clear h
 obtain ⟨ji3, hji3⟩ : ∃ j_ : Int, (wrap64 ((l0.length : Int) + 1)) = j_ := ⟨_, rfl⟩
 first | rw [hji3] at H | simp only [hji3] at H
 have hji3w : (IntKind.i64.wrap ((l0.length : Int) + 1)) = ji3 := (i64_w _).trans hji3
 replace H := of_ite H
 obtain ⟨c4, H⟩ := H
 have c4b0 := eq_true c4
 have c4b1 := decide_eq_true c4
 clear c4
 replace H := of_ite H
 obtain ⟨c5, H⟩ := H
 have c5b0 := eq_true c5
 have c5b1 := decide_eq_true c5
 clear c5
 obtain ⟨y356, hy356⟩ : ∃ y_ : List Int, y_ = (List.replicate (ji3 : Int).toNat 0) := ⟨_, rfl⟩
 replace H : (R1shifted.l0 k l0 a1 y356 0) = some r := by first | (rw [hy356]; with_reducible exact H) | (have H2_ := (Option.bind_some _ _).symm.trans H; rw [hy356]; with_reducible exact H2_) | (have H2_ := (Option.bind_some _ _).symm.trans H; with_reducible exact H2_) | with_reducible exact H | (rw [hy356]; exact H) | exact H
 have Ny356 := Aside0.mk hy356
 clear hy356
 have H' := Aside0.mk H
 clear H
 go_enter Tryd.func104, Tryd.ntmps104
 go_wp2_with (first | ((with_reducible refine gate_dst (N := 11) rfl ?_); refine Kd.R_make (Kd.int .u32) _ 86 rfl (N := 11) rfl 74 _ _ rfl ji3 rfl rfl Tryd.underlying74 (.int .u32 0) 4 info86 rfl (by decide) (by omega) 0 (ok := fun _ => True) (okp := fun _ => True) rfl (fun _ hk => hk) trivial (of_decide_eq_true zq0) (Nat.le_trans (Nat.mul_le_mul_right _ (of_decide_eq_true zq0 : ji3.toNat ≤ 70368744177664)) (by omega)) (Below.refl _ _) (Nat.le_refl _) ?_; intro v357 w6 ho7 hb hg_ hnew_; clear hg_ hnew_; (first | rw [← Ny356.out] at ho7 | (simp only [Int.reduceToNat] at ho7; rw [← Ny356.out] at ho7)); have n0_ := Aside0.mk (Kd.R_lower ho7 (below_size zH)); have n1_ := sB hb; revert n0_ n1_; clear HB; intro HO358 HB; clear hb ho7))
 go_loopg [6] k (fun kq v6 w' => ∃ (x5_1 : List Int) (x6_1 : Int), v6 = .int .i64 x6_1 ∧ Aside0 (R1shifted.l0 kq l0 a1 x5_1 x6_1 = some r) ∧ Aside0 (kq ≤ k) ∧ Aside0 (Kd.R (Kd.int .u32) 86 w' w.heap.size (fun _ => True) v357 x5_1) ∧ Aside0 (Below w.heap.size w w'))
 case atStart => exact ⟨(y356), (0), zq1, H', ⟨Nat.le_refl _⟩, ⟨by (with_reducible repeat (first | apply Kd.R_alloc | apply Kd.R_drewN | apply Kd.R_drew)); exact HO358.out⟩, ⟨zH⟩⟩
 case round =>
  clear H'
  (try clear c1); (try clear p2); (try clear c4); (try clear c4b0); (try clear c4b1); (try clear c5); (try clear c5b0); (try clear c5b1); (try clear p6)
  obtain ⟨x5_1, x6_1, rfl, HA, HK1, HO_5, HB⟩ := hrel
  cases gk with
  | zero => exact absurd HA.out (by simp [R1shifted.l0])
  | succ k1 =>
   have H := HA.out
   clear HA
   simp only [R1shifted.l0] at H
   by_cases c8 : x6_1 < (l0.length : Int)
   ·rw [if_pos c8] at H
    have c8b0 := decide_eq_true c8
    clear c8
    replace H := of_ite H
    obtain ⟨c9, H⟩ := H
    have c9b0 := decide_eq_true c9
    clear c9
    replace H := of_ite H
    obtain ⟨c10, H⟩ := H
    have c10b0 := eq_true c10
    have c10b1 := decide_eq_true c10
    clear c10
    replace H := of_ite H
    obtain ⟨c11, H⟩ := H
    have c11b0 := eq_true c11
    have c11b1 := decide_eq_true c11
    clear c11
    replace H := of_ite H
    obtain ⟨c12, H⟩ := H
    have c12b0 := decide_eq_true c12
    clear c12
    obtain ⟨y361, hy361⟩ : ∃ y_ : List Int, y_ = (x5_1.set (x6_1 : Int).toNat (Go.bits .or .u32 (rd x5_1 x6_1) ((IntKind.u64.wrap ((IntKind.u64.wrap (rd l0 x6_1)) * 2 ^ a1.toNat)) % 4294967296))) := ⟨_, rfl⟩
    replace H : (if 0 ≤ (wrap64 (x6_1 + 1)) then (if (wrap64 (x6_1 + 1)) < (x5_1.length : Int) then (R1shifted.l0 k1 l0 a1 (y361.set ((wrap64 (x6_1 + 1)) : Int).toNat (((IntKind.u64.wrap ((IntKind.u64.wrap (rd l0 x6_1)) * 2 ^ a1.toNat)) / 4294967296) % 4294967296)) (wrap64 (x6_1 + 1))) else (none)) else (none)) = some r := by first | (rw [hy361]; with_reducible exact H) | (have H2_ := (Option.bind_some _ _).symm.trans H; rw [hy361]; with_reducible exact H2_) | (have H2_ := (Option.bind_some _ _).symm.trans H; with_reducible exact H2_) | with_reducible exact H | (rw [hy361]; exact H) | exact H
    have Ny361 := Aside0.mk hy361
    clear hy361
    obtain ⟨ji14, hji14⟩ : ∃ j_ : Int, (wrap64 (x6_1 + 1)) = j_ := ⟨_, rfl⟩
    first | rw [hji14] at H | simp only [hji14] at H
    have hji14w : (IntKind.i64.wrap (x6_1 + 1)) = ji14 := (i64_w _).trans hji14
    replace H := of_ite H
    obtain ⟨c15, H⟩ := H
    have c15b0 := decide_eq_true c15
    clear c15
    replace H := of_ite H
    obtain ⟨c16, H⟩ := H
    have c16b0 := decide_eq_true c16
    clear c16
    obtain ⟨y362, hy362⟩ : ∃ y_ : List Int, y_ = (y361.set ((ji14) : Int).toNat (((IntKind.u64.wrap ((IntKind.u64.wrap (rd l0 x6_1)) * 2 ^ a1.toNat)) / 4294967296) % 4294967296)) := ⟨_, rfl⟩
    replace H : (R1shifted.l0 k1 l0 a1 y362 ji14) = some r := by first | (rw [hy362]; with_reducible exact H) | (have H2_ := (Option.bind_some _ _).symm.trans H; rw [hy362]; with_reducible exact H2_) | (have H2_ := (Option.bind_some _ _).symm.trans H; with_reducible exact H2_) | with_reducible exact H | (rw [hy362]; exact H) | exact H
    have Ny362 := Aside0.mk hy362
    clear hy362
    have H' := Aside0.mk H
    clear H
    have p359 : 0 ≤ (x6_1 : Int) := of_decide_eq_true zq0
    have q359 : x6_1 < (l0.length : Int) := of_decide_eq_true zq0
    obtain ⟨ad359, e359, hx359_0⟩ := Kd.at_int HR0.out x6_1 p359 q359
    cases e359
    (try replace hx359_0 := (HB.out.cell (World.block_lt_of_cell? w _ hx359_0)).trans hx359_0)
    replace p359 := eq_true p359
    replace q359 := eq_true q359
    obtain ⟨Ao18, co18, eo18⟩ := Kd.R_slice HO_5.out
    subst eo18
    have p360 : 0 ≤ (x6_1 : Int) := of_decide_eq_true zq0
    have q360 : x6_1 < (x5_1.length : Int) := of_decide_eq_true zq0
    obtain ⟨ad360, e360, hx360_0⟩ := Kd.at_int (Kd.R_reads' HO_5.out).2.2 x6_1 p360 q360
    cases e360
    replace p360 := eq_true p360
    replace q360 := eq_true q360
    have p13 : 0 ≤ (x6_1 : Int) := of_decide_eq_true zq0
    have q13 : (x6_1 : Int) < ((x5_1.length : Int) : Int) := of_decide_eq_true zq0
    obtain ⟨go13, co13, eo13, gb13, gl13, cl13, HG13⟩ := Kd.R_form HO_5.out (by omega)
    (first | cases eo13 | (injection eo13 with ea_ en_ ec_; (first | subst ea_ | (injection ea_ with ea_; subst ea_)); subst ec_; clear en_))
    have GB13 := Aside0.mk gb13
    have GG13 := Aside0.mk HG13
    clear gb13 gl13 HG13
    (first | simp only [add_plain] at hx360_0 | skip)
    obtain ⟨hx13_0, hf13_0⟩ := Kd.R_celln 0 HO_5.out (x6_1 : Int) p13 q13
    (try simp only [Go.IntWalk.toNatUp] at hx13_0 hf13_0)
    replace p13 := eq_true p13
    replace q13 := eq_true q13
    have HP19 := Kd.R_putg HO_5.out (x6_1 : Int) (Go.bits .or .u32 (rd x5_1 x6_1) ((IntKind.u64.wrap ((IntKind.u64.wrap (rd l0 x6_1)) * 2 ^ a1.toNat)) % 4294967296))
    go_wp2_with (first | ((with_reducible refine gate_store (t := 86) (p := 34) rfl ?_); refine store_event (t := 86) (p := 34) (v := ?vo_w20) (w1 := (wr.setCell ⟨go13, (x6_1 : Int).toNat, none⟩ (.int .u32 (Go.bits .or .u32 (rd x5_1 x6_1) ((IntKind.u64.wrap ((IntKind.u64.wrap (rd l0 x6_1)) * 2 ^ a1.toNat)) % 4294967296))))) ?hg ?ho ?hn ?hr ?_; (case ho => rfl); (case hg => rfl); (case hn => rfl); (case hr => first | (go_simp; done) | (go_simp; rfl)); intro w20 hw; have hg : wr.grownBy w20 (some go13) := (by rw [hw]; exact HP19.2); have hp_ : Kd.R (Kd.int .u32) 86 w20 w.heap.size (fun _ => True) (.slice (some ⟨go13, 0, none⟩) x5_1.length co18) y361 := (by rw [hw, Ny361.out]; exact HP19.1); clear HP19; have n0_ := Aside0.mk (hp_); have n1_ := Aside0.mk ((by rw [hw]; exact below_set (HB.out) GB13.out : Below w.heap.size w w20)); revert n0_ n1_; clear HO_5 HB; intro HO_5 HB; clear hg hw hp_; have p17 : 0 ≤ ((ji14) : Int) := of_decide_eq_true zq0; have q17 : ((ji14) : Int) < ((x5_1.length : Int) : Int) := of_decide_eq_true zq0; obtain ⟨hx17_0, hf17_0⟩ := Kd.R_celln 0 HO_5.out ((ji14) : Int) p17 q17; replace p17 := eq_true p17; replace q17 := eq_true q17; obtain ⟨hy21_, hz21_⟩ := Kd.R_celln 0 HO_5.out ((ji14) : Int) (of_decide_eq_true zq0) (of_decide_eq_true zq0); have HP21 := Kd.R_putg HO_5.out ((ji14) : Int) (((IntKind.u64.wrap ((IntKind.u64.wrap (rd l0 x6_1)) * 2 ^ a1.toNat)) / 4294967296) % 4294967296)) | ((with_reducible refine gate_store (t := 86) (p := 41) rfl ?_); refine store_event (t := 86) (p := 41) (v := ?vo_w22) (w1 := (w20.setCell ⟨go13, ((ji14) : Int).toNat, none⟩ (.int .u32 (((IntKind.u64.wrap ((IntKind.u64.wrap (rd l0 x6_1)) * 2 ^ a1.toNat)) / 4294967296) % 4294967296)))) ?hg ?ho ?hn ?hr ?_; (case ho => rfl); (case hg => rfl); (case hn => rfl); (case hr => first | (go_simp; done) | (go_simp; rfl)); intro w22 hw; have hg : w20.grownBy w22 (some go13) := (by rw [hw]; exact HP21.2); have hp_ : Kd.R (Kd.int .u32) 86 w22 w.heap.size (fun _ => True) (.slice (some ⟨go13, 0, none⟩) x5_1.length co18) y362 := (by rw [hw, Ny362.out]; exact HP21.1); clear HP21; have n0_ := Aside0.mk (hp_); have n1_ := Aside0.mk ((by rw [hw]; exact below_set (HB.out) GB13.out : Below w.heap.size w w22)); revert n0_ n1_; clear HO_5 HB; intro HO_5 HB; clear hg hw hp_))
    go_roundg k1
    case measure => have := HK1.out; omega
    case rel => exact ⟨(y362), (ji14), (by first | rfl | (simp; done) | (simp only [← hji14] <;> (first | rfl | simp)) | (simp [*]; done)), H', ⟨by have := HK1.out; omega⟩, ⟨by (with_reducible repeat (first | apply Kd.R_alloc | apply Kd.R_drewN | apply Kd.R_drew)); exact HO_5.out⟩, ⟨zH⟩⟩
   ·rw [if_neg c8] at H
    have c8b0 := decide_eq_false c8
    clear c8
    obtain rfl := Option.some.inj H
    go_wp2
    go_ret
    exact ⟨_, by first | rfl | (simp [errW_none, errW_some] <;> rfl) | (simp only [← hji3]; first | rfl | (simp [errW_none, errW_some] <;> rfl)) | (simp [*, errW_none, errW_some] <;> rfl), by (with_reducible repeat (first | apply Kd.R_alloc | apply Kd.R_drewN | apply Kd.R_drew)); exact HO_5.out, zH⟩
end Go.Proofs.YtggfilmdfpmbmaaDoor.QN
end
