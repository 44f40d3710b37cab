/-
  Steps and laws behind the statement that the claim's last text proves: the words of the walks, the walks of the Go functions (printed by a program of this session's own, then shortened by one), and what they compute. Conditions: stated at each theorem.
-/
import Derived.Test.YtggfilmdfpmbmaaDoorP1
import Derived.Test.YtggfilmdfpmbmaaDoorP2
import Derived.Test.YtggfilmdfpmbmaaDoorP0
section
namespace Go.Proofs.YtggfilmdfpmbmaaDoor.QN
open Go.RowKit Go.Proofs.YtggfilmdfpmbmaaDoorW.PrintWords Go.Proofs.YtggfilmdfpmbmaaDoorW.PrintLast Go.Proofs.YtggfilmdfpmbmaaDoorW.PrintMore
attribute [local go_sem] max2_int min2_int max_two min_two max_three min_three max_four min_four   -- for this text's walks alone
set_option linter.unusedVariables false
set_option linter.unusedSimpArgs false
def Q1Valid.j0 : Nat → Bool → Bool → ByteArray → ByteArray → Option (Bool)
 | 0, _, _, _, _ => none
 | k + 1, x16, x486000, x486001, x486002 => if x16 = true then (some false) else (if x486001.toList = ([] : List UInt8) then (if x486000 = true then (some false) else (some (x486002.toList == ([] : List UInt8)))) else (if x486002.toList = ([] : List UInt8) then (some true) else (if x486002.toList = ([1] : List UInt8) then (some false) else ((N1GCD.f k x486001 x486002).bind fun t488 => (some (t488.toList == ([1] : List UInt8)))))))
def Q1Valid.f (k : Nat) (a0_0 : Bool) (a0_1 : ByteArray) (a0_2 : ByteArray) : Option (Bool) := (N1Normalize.f k a0_1).bind fun t486 => (if t486.toList = a0_1.toList then ((N1Normalize.f k a0_2).bind fun t487 => (Q1Valid.j0 k (t487.toList != a0_2.toList) a0_0 a0_1 a0_2)) else (Q1Valid.j0 k true a0_0 a0_1 a0_2))
set_option maxHeartbeats 8000000 in
set_option maxRecDepth 100000 in
theorem Q1Valid.calls (k : Nat) (a0_0 : Bool) (a0_1 : ByteArray) (a0_2 : ByteArray) (r : Bool) (w : World) (h : Q1Valid.f k a0_0 a0_1 a0_2 = some r) :
 Calls Tryd.prog 62 #[.agg #[.bool a0_0, .string a0_1, .string a0_2]] w fun e w' => e = .returned (.bool r) ∧ Below w.heap.size w w' := by
 have hu29 := Tryd.underlying29
 have HB := Aside0.mk (Below.refl w.heap.size w)
 have H : ((N1Normalize.f k a0_1).bind fun t486 => (if t486.toList = a0_1.toList then ((N1Normalize.f k a0_2).bind fun t487 => (Q1Valid.j0 k (t487.toList != a0_2.toList) a0_0 a0_1 a0_2)) else (Q1Valid.j0 k true a0_0 a0_1 a0_2))) = some r := h
 clear h
 have HC2 := Aside0.mk H
 clear H
 go_enter Tryd.func62, Tryd.ntmps62
 go_upto_region 1 with (first | (refine box_evA 1 #[.bool a0_0, .string a0_1, .string a0_2] 29 ?_; intro gb485 hg w3 hbox hb; obtain ⟨n0_, n1_, n2_, n3_⟩ := bx4 w hbox hb hg; revert n0_ n1_ n2_ n3_; clear HB; intro HB BK485 GW485 GE485; clear hb hbox hg))
 repeat (go_quiet (first | (refine box_evA 1 #[.bool a0_0, .string a0_1, .string a0_2] 29 ?_; intro gb485 hg w3 hbox hb; obtain ⟨n0_, n1_, n2_, n3_⟩ := bx4 w hbox hb hg; revert n0_ n1_ n2_ n3_; clear HB; intro HB BK485 GW485 GE485; clear hb hbox hg)); go_upto_region 1 with (first | (refine box_evA 1 #[.bool a0_0, .string a0_1, .string a0_2] 29 ?_; intro gb485 hg w3 hbox hb; obtain ⟨n0_, n1_, n2_, n3_⟩ := bx4 w hbox hb hg; revert n0_ n1_ n2_ n3_; clear HB; intro HB BK485 GW485 GE485; clear hb hbox hg)))
 (try simp only [Act.put, List.setIfInBounds_toArray, List.set_cons_zero, List.set_cons_succ])
 go_cut [16] (fun v16 wc => ∃ (kq : Nat) (x16_1 : Bool), v16 = .bool x16_1 ∧ Aside0 (Q1Valid.j0 kq x16_1 a0_0 a0_1 a0_2 = some r) ∧ Aside0 (kq ≤ k) ∧ Aside0 (wc.heap[gb485]? = some (.cells #[.bool a0_0, .string a0_1, .string a0_2] 29 (0, 0))) ∧ Aside0 (Below w.heap.size w wc))
 case first =>
  have H := HC2.out
  clear HC2
  replace H := bS H
  obtain ⟨t486, A4, H⟩ := H
  by_cases c5 : t486.toList = a0_1.toList
  ·rw [if_pos c5] at H
   have c5b0 := beq_iff_eq.mpr c5
   have c5b1 : (t486.toList != a0_1.toList) = false := bne_eq_false_iff_eq.mpr c5
   clear c5
   (first | rw [c5b0] | (simp only [i64_w, i32_w]; rw [c5b0]) | rw [c5b1] | skip)
   replace H := bS H
   obtain ⟨t487, A6, H⟩ := H
   have H' := Aside0.mk H
   clear H
   have hcz7_0 := cB BK485 0 (.bool a0_0)
   have hcz7_1 := cB BK485 1 (.string a0_1)
   have hcz7_2 := cB BK485 2 (.string a0_2)
   have hfz7_0 := fB BK485 0
   have hfz7_1 := fB BK485 1
   have hfz7_2 := fB BK485 2
   go_wp2_with (first | (go_at_call 63; (with_reducible refine (N1Normalize.calls k a0_1 t486 _ A4.out).mono ?_); rintro e w' ⟨rfl, ⟨nd, rfl⟩⟩; (try first | exact ⟨rfl, _, World.drewN_drewN _ _ _⟩ | exact ⟨rfl, _, Eq.trans (World.drewN_drewN _ _ _) (congrArg (World.drewN _) (Nat.add_assoc _ _ _))⟩)) | (go_at_call 63; (with_reducible refine (N1Normalize.calls k a0_2 t487 _ A6.out).mono ?_); rintro e w' ⟨rfl, ⟨nd, rfl⟩⟩; (try first | exact ⟨rfl, _, World.drewN_drewN _ _ _⟩ | exact ⟨rfl, _, Eq.trans (World.drewN_drewN _ _ _) (congrArg (World.drewN _) (Nat.add_assoc _ _ _))⟩)))
   repeat (go_quiet (first | (go_at_call 63; (with_reducible refine (N1Normalize.calls k a0_1 t486 _ A4.out).mono ?_); rintro e w' ⟨rfl, ⟨nd, rfl⟩⟩; (try first | exact ⟨rfl, _, World.drewN_drewN _ _ _⟩ | exact ⟨rfl, _, Eq.trans (World.drewN_drewN _ _ _) (congrArg (World.drewN _) (Nat.add_assoc _ _ _))⟩)) | (go_at_call 63; (with_reducible refine (N1Normalize.calls k a0_2 t487 _ A6.out).mono ?_); rintro e w' ⟨rfl, ⟨nd, rfl⟩⟩; (try first | exact ⟨rfl, _, World.drewN_drewN _ _ _⟩ | exact ⟨rfl, _, Eq.trans (World.drewN_drewN _ _ _) (congrArg (World.drewN _) (Nat.add_assoc _ _ _))⟩))); try go_wp2_with (first | (go_at_call 63; (with_reducible refine (N1Normalize.calls k a0_1 t486 _ A4.out).mono ?_); rintro e w' ⟨rfl, ⟨nd, rfl⟩⟩; (try first | exact ⟨rfl, _, World.drewN_drewN _ _ _⟩ | exact ⟨rfl, _, Eq.trans (World.drewN_drewN _ _ _) (congrArg (World.drewN _) (Nat.add_assoc _ _ _))⟩)) | (go_at_call 63; (with_reducible refine (N1Normalize.calls k a0_2 t487 _ A6.out).mono ?_); rintro e w' ⟨rfl, ⟨nd, rfl⟩⟩; (try first | exact ⟨rfl, _, World.drewN_drewN _ _ _⟩ | exact ⟨rfl, _, Eq.trans (World.drewN_drewN _ _ _) (congrArg (World.drewN _) (Nat.add_assoc _ _ _))⟩))))
   go_meet
   case rel => exact ⟨_, ((t487.toList != a0_2.toList)), zq1, H', ⟨by first | omega | exact Nat.le_refl _⟩, ⟨bC BK485⟩, ⟨zH⟩⟩
  ·rw [if_neg c5] at H
   have c5b0 := beq_eq_false_iff_ne.mpr c5
   have c5b1 := bne_iff_ne.mpr c5
   (first | rw [c5b0] | (simp only [i64_w, i32_w]; rw [c5b0]) | rw [c5b1] | skip)
   have H' := Aside0.mk H
   clear H
   have hcz8_0 := cB BK485 0 (.bool a0_0)
   have hcz8_1 := cB BK485 1 (.string a0_1)
   have hcz8_2 := cB BK485 2 (.string a0_2)
   have hfz8_0 := fB BK485 0
   have hfz8_1 := fB BK485 1
   have hfz8_2 := fB BK485 2
   go_wp2_with (first | (go_at_call 63; (with_reducible refine (N1Normalize.calls k a0_1 t486 _ A4.out).mono ?_); rintro e w' ⟨rfl, ⟨nd, rfl⟩⟩; (try first | exact ⟨rfl, _, World.drewN_drewN _ _ _⟩ | exact ⟨rfl, _, Eq.trans (World.drewN_drewN _ _ _) (congrArg (World.drewN _) (Nat.add_assoc _ _ _))⟩)))
   repeat (go_quiet (first | (go_at_call 63; (with_reducible refine (N1Normalize.calls k a0_1 t486 _ A4.out).mono ?_); rintro e w' ⟨rfl, ⟨nd, rfl⟩⟩; (try first | exact ⟨rfl, _, World.drewN_drewN _ _ _⟩ | exact ⟨rfl, _, Eq.trans (World.drewN_drewN _ _ _) (congrArg (World.drewN _) (Nat.add_assoc _ _ _))⟩))); try go_wp2_with (first | (go_at_call 63; (with_reducible refine (N1Normalize.calls k a0_1 t486 _ A4.out).mono ?_); rintro e w' ⟨rfl, ⟨nd, rfl⟩⟩; (try first | exact ⟨rfl, _, World.drewN_drewN _ _ _⟩ | exact ⟨rfl, _, Eq.trans (World.drewN_drewN _ _ _) (congrArg (World.drewN _) (Nat.add_assoc _ _ _))⟩))))
   go_meet
   case rel => exact ⟨_, (true), zq1, H', ⟨by first | omega | exact Nat.le_refl _⟩, ⟨bC BK485⟩, ⟨zH⟩⟩
 case rest =>
  clear HC2
  obtain ⟨kq, x16_1, rfl, HA, HJ1, BK485, HB⟩ := hcut
  cases kq with
  | zero => exact absurd HA.out (by simp [Q1Valid.j0])
  | succ kj1 =>
   have H := HA.out
   clear HA
   simp only [Q1Valid.j0] at H
   by_cases c9 : x16_1 = true
   ·subst c9
    have H1 : (some false) = some r := by rw [if_pos rfl] at H; exact H
    clear H
    have H := H1
    clear H1
    obtain rfl := Option.some.inj H
    go_wp2
    repeat (go_quiet (fail); try go_wp2)
    go_ret
    exact ⟨zE, zH⟩
   ·replace c9 := Bool.eq_false_iff.mpr c9
    subst c9
    have H1 : (if a0_1.toList = ([] : List UInt8) then (if a0_0 = true then (some false) else (some (a0_2.toList == ([] : List UInt8)))) else (if a0_2.toList = ([] : List UInt8) then (some true) else (if a0_2.toList = ([1] : List UInt8) then (some false) else ((N1GCD.f kj1 a0_1 a0_2).bind fun t488 => (some (t488.toList == ([1] : List UInt8))))))) = some r := by rw [if_neg (show ¬ (false = true) by decide)] at H; exact H
    clear H
    have H := H1
    clear H1
    by_cases c10 : a0_1.toList = ([] : List UInt8)
    ·rw [if_pos c10] at H
     have c10b0 := beq_iff_eq.mpr c10
     have c10b1 : (a0_1.toList != ([] : List UInt8)) = false := bne_eq_false_iff_eq.mpr c10
     clear c10
     by_cases c11 : a0_0 = true
     ·subst c11
      have H1 : (some false) = some r := by rw [if_pos rfl] at H; exact H
      clear H
      have H := H1
      clear H1
      obtain rfl := Option.some.inj H
      have hcz12_0 := cB BK485 0 (.bool true)
      have hcz12_1 := cB BK485 1 (.string a0_1)
      have hcz12_2 := cB BK485 2 (.string a0_2)
      have hfz12_0 := fB BK485 0
      have hfz12_1 := fB BK485 1
      have hfz12_2 := fB BK485 2
      go_wp2
      repeat (go_quiet (fail); try go_wp2)
      go_ret
      exact ⟨zE, zH⟩
     ·replace c11 := Bool.eq_false_iff.mpr c11
      subst c11
      have H1 : (some (a0_2.toList == ([] : List UInt8))) = some r := by rw [if_neg (show ¬ (false = true) by decide)] at H; exact H
      clear H
      have H := H1
      clear H1
      obtain rfl := Option.some.inj H
      have hcz13_0 := cB BK485 0 (.bool false)
      have hcz13_1 := cB BK485 1 (.string a0_1)
      have hcz13_2 := cB BK485 2 (.string a0_2)
      have hfz13_0 := fB BK485 0
      have hfz13_1 := fB BK485 1
      have hfz13_2 := fB BK485 2
      go_wp2
      repeat (go_quiet (fail); try go_wp2)
      go_ret
      exact ⟨zE, zH⟩
    ·rw [if_neg c10] at H
     have c10b0 := beq_eq_false_iff_ne.mpr c10
     have c10b1 := bne_iff_ne.mpr c10
     by_cases c14 : a0_2.toList = ([] : List UInt8)
     ·rw [if_pos c14] at H
      have c14b0 := beq_iff_eq.mpr c14
      have c14b1 : (a0_2.toList != ([] : List UInt8)) = false := bne_eq_false_iff_eq.mpr c14
      clear c14
      obtain rfl := Option.some.inj H
      have hcz15_0 := cB BK485 0 (.bool a0_0)
      have hcz15_1 := cB BK485 1 (.string a0_1)
      have hcz15_2 := cB BK485 2 (.string a0_2)
      have hfz15_0 := fB BK485 0
      have hfz15_1 := fB BK485 1
      have hfz15_2 := fB BK485 2
      go_wp2
      repeat (go_quiet (fail); try go_wp2)
      go_ret
      exact ⟨zE, zH⟩
     ·rw [if_neg c14] at H
      have c14b0 := beq_eq_false_iff_ne.mpr c14
      have c14b1 := bne_iff_ne.mpr c14
      by_cases c16 : a0_2.toList = ([1] : List UInt8)
      ·rw [if_pos c16] at H
       have c16b0 := beq_iff_eq.mpr c16
       have c16b1 : (a0_2.toList != ([1] : List UInt8)) = false := bne_eq_false_iff_eq.mpr c16
       clear c16
       obtain rfl := Option.some.inj H
       have hcz17_0 := cB BK485 0 (.bool a0_0)
       have hcz17_1 := cB BK485 1 (.string a0_1)
       have hcz17_2 := cB BK485 2 (.string a0_2)
       have hfz17_0 := fB BK485 0
       have hfz17_1 := fB BK485 1
       have hfz17_2 := fB BK485 2
       go_wp2
       repeat (go_quiet (fail); try go_wp2)
       go_ret
       exact ⟨zE, zH⟩
      ·rw [if_neg c16] at H
       have c16b0 := beq_eq_false_iff_ne.mpr c16
       have c16b1 := bne_iff_ne.mpr c16
       replace H := bS H
       obtain ⟨t488, A18, H⟩ := H
       obtain rfl := Option.some.inj H
       have hcz19_0 := cB BK485 0 (.bool a0_0)
       have hcz19_1 := cB BK485 1 (.string a0_1)
       have hcz19_2 := cB BK485 2 (.string a0_2)
       have hfz19_0 := fB BK485 0
       have hfz19_1 := fB BK485 1
       have hfz19_2 := fB BK485 2
       go_wp2_with (first | (go_at_call 64; (with_reducible refine (N1GCD.calls kj1 a0_1 a0_2 t488 _ A18.out).mono ?_); rintro e w20 ⟨rfl, hb⟩; have n0_ := bB BK485 hb; have n1_ := sB hb; revert n0_ n1_; clear BK485 HB; intro BK485 HB; (try clear hb); (try clear hb2); (try clear hk); (try clear hi)))
       repeat (go_quiet (first | (go_at_call 64; (with_reducible refine (N1GCD.calls kj1 a0_1 a0_2 t488 _ A18.out).mono ?_); rintro e w20 ⟨rfl, hb⟩; have n0_ := bB BK485 hb; have n1_ := sB hb; revert n0_ n1_; clear BK485 HB; intro BK485 HB; (try clear hb); (try clear hb2); (try clear hk); (try clear hi))); try go_wp2_with (first | (go_at_call 64; (with_reducible refine (N1GCD.calls kj1 a0_1 a0_2 t488 _ A18.out).mono ?_); rintro e w20 ⟨rfl, hb⟩; have n0_ := bB BK485 hb; have n1_ := sB hb; revert n0_ n1_; clear BK485 HB; intro BK485 HB; (try clear hb); (try clear hb2); (try clear hk); (try clear hi))))
       go_ret
       exact ⟨zE, zH⟩
def Q1clean.f (k : Nat) (a0_0 : Bool) (a0_1 : ByteArray) (a0_2 : ByteArray) : Option (Bool × ByteArray × ByteArray) := (Q1Valid.f k a0_0 a0_1 a0_2).bind fun t491 => (if t491 = true then (some (a0_0, a0_1, a0_2)) else (some (false, (⟨#[]⟩ : ByteArray), (⟨#[]⟩ : ByteArray))))
set_option maxHeartbeats 8000000 in
set_option maxRecDepth 100000 in
theorem Q1clean.calls (k : Nat) (a0_0 : Bool) (a0_1 : ByteArray) (a0_2 : ByteArray) (r1 : Bool) (r2 : ByteArray) (r3 : ByteArray) (w : World) (h : Q1clean.f k a0_0 a0_1 a0_2 = some (r1, r2, r3)) :
 Calls Tryd.prog 41 #[.agg #[.bool a0_0, .string a0_1, .string a0_2]] w fun e w' => e = .returned (.agg #[.bool r1, .string r2, .string r3]) ∧ Below w.heap.size w w' := by
 have hu29 := Tryd.underlying29
 have HB := Aside0.mk (Below.refl w.heap.size w)
 have H : ((Q1Valid.f k a0_0 a0_1 a0_2).bind fun t491 => (if t491 = true then (some (a0_0, a0_1, a0_2)) else (some (false, (⟨#[]⟩ : ByteArray), (⟨#[]⟩ : ByteArray))))) = some (r1, r2, r3) := h
 clear h
 replace H := bS H
 obtain ⟨t491, A2, H⟩ := H
 by_cases c3 : t491 = true
 ·subst c3
  have H1 : (some (a0_0, a0_1, a0_2)) = some (r1, r2, r3) := by rw [if_pos rfl] at H; exact H
  clear H
  have H := H1
  clear H1
  simp only [Option.some.injEq, Prod.mk.injEq] at H
  obtain ⟨rfl, rfl, rfl⟩ := H
  go_enter Tryd.func41, Tryd.ntmps41
  go_wp2_with (first | (refine box_evA 1 #[.bool a0_0, .string a0_1, .string a0_2] 29 ?_; intro gb489 hg w4 hbox hb; obtain ⟨n0_, n1_, n2_, n3_⟩ := bx4 w hbox hb hg; revert n0_ n1_ n2_ n3_; clear HB; intro HB BK489 GW489 GE489; clear hb hbox hg) | (refine box_evA 2 #[.bool false, .string (⟨#[]⟩ : ByteArray), .string (⟨#[]⟩ : ByteArray)] 29 ?_; intro gb490 hg w5 hbox hb; have n0_ := bB BK489 hb; have n1_ := sB hb; have n2_ := Aside0.mk (hbox); have n3_ := wE w hg; have n4_ := wE w hg; have n5_ := Aside0.mk (nL BK489 hg); have n6_ := Aside0.mk (nG BK489 hg); revert n0_ n1_ n2_ n3_ n4_ n5_ n6_; clear BK489 HB; intro BK489 HB BK490 GW490 GE490 NB489_490 NB490_489; clear hb hbox hg; have hnb6 := NB489_490.out; have hnc6 := NB490_489.out; have hcz7_0 := cB BK489 0 (.bool a0_0); have hcz7_1 := cB BK489 1 (.string a0_1); have hcz7_2 := cB BK489 2 (.string a0_2); have hfz7_0 := fB BK489 0; have hfz7_1 := fB BK489 1; have hfz7_2 := fB BK489 2) | (refine goesLA 4 Tryd.func62 #[.agg #[.bool a0_0, .string a0_1, .string a0_2]] ?_; (with_reducible refine (Q1Valid.calls k a0_0 a0_1 a0_2 true _ A2.out).mono ?_); rintro e w8 ⟨rfl, hb⟩; refine ⟨_, rfl, ?_⟩; have n0_ := bB BK489 hb; have n1_ := bB BK490 hb; have n2_ := sB hb; revert n0_ n1_ n2_; clear BK489 BK490 HB; intro BK489 BK490 HB; (try clear hb); (try clear hb2); (try clear hk); (try clear hi); have hcz9_0 := cB BK489 0 (.bool a0_0); have hcz9_1 := cB BK489 1 (.string a0_1); have hcz9_2 := cB BK489 2 (.string a0_2); have hfz9_0 := fB BK489 0; have hfz9_1 := fB BK489 1; have hfz9_2 := fB BK489 2; have hcz10_0 := cB BK490 0 (.bool false); have hcz10_1 := cB BK490 1 (.string (⟨#[]⟩ : ByteArray)); have hcz10_2 := cB BK490 2 (.string (⟨#[]⟩ : ByteArray)); have hfz10_0 := fB BK490 0; have hfz10_1 := fB BK490 1; have hfz10_2 := fB BK490 2))
  refine bodyPost_ret (results_cell_row rfl _ _ gb490 29 #[.bool a0_0, .string a0_1, .string a0_2] (0, 0) _ rfl (bC BK490) Tryd.underlying29 rfl (by kernel_rfl)) rfl ?_
  exact ⟨zE, zH⟩
 ·replace c3 := Bool.eq_false_iff.mpr c3
  subst c3
  have H1 : (some (false, (⟨#[]⟩ : ByteArray), (⟨#[]⟩ : ByteArray))) = some (r1, r2, r3) := by rw [if_neg (show ¬ (false = true) by decide)] at H; exact H
  clear H
  have H := H1
  clear H1
  simp only [Option.some.injEq, Prod.mk.injEq] at H
  obtain ⟨rfl, rfl, rfl⟩ := H
  go_enter Tryd.func41, Tryd.ntmps41
  go_wp2_with (first | (refine box_evA 1 #[.bool a0_0, .string a0_1, .string a0_2] 29 ?_; intro gb489 hg w11 hbox hb; obtain ⟨n0_, n1_, n2_, n3_⟩ := bx4 w hbox hb hg; revert n0_ n1_ n2_ n3_; clear HB; intro HB BK489 GW489 GE489; clear hb hbox hg) | (refine box_evA 2 #[.bool false, .string (⟨#[]⟩ : ByteArray), .string (⟨#[]⟩ : ByteArray)] 29 ?_; intro gb490 hg w12 hbox hb; have n0_ := bB BK489 hb; have n1_ := sB hb; have n2_ := Aside0.mk (hbox); have n3_ := wE w hg; have n4_ := wE w hg; have n5_ := Aside0.mk (nL BK489 hg); have n6_ := Aside0.mk (nG BK489 hg); revert n0_ n1_ n2_ n3_ n4_ n5_ n6_; clear BK489 HB; intro BK489 HB BK490 GW490 GE490 NB489_490 NB490_489; clear hb hbox hg; have hnb13 := NB489_490.out; have hnc13 := NB490_489.out; have hcz14_0 := cB BK489 0 (.bool a0_0); have hcz14_1 := cB BK489 1 (.string a0_1); have hcz14_2 := cB BK489 2 (.string a0_2); have hfz14_0 := fB BK489 0; have hfz14_1 := fB BK489 1; have hfz14_2 := fB BK489 2) | (refine goesLA 4 Tryd.func62 #[.agg #[.bool a0_0, .string a0_1, .string a0_2]] ?_; (with_reducible refine (Q1Valid.calls k a0_0 a0_1 a0_2 false _ A2.out).mono ?_); rintro e w15 ⟨rfl, hb⟩; refine ⟨_, rfl, ?_⟩; have n0_ := bB BK489 hb; have n1_ := bB BK490 hb; have n2_ := sB hb; revert n0_ n1_ n2_; clear BK489 BK490 HB; intro BK489 BK490 HB; (try clear hb); (try clear hb2); (try clear hk); (try clear hi); have hcz16_0 := cB BK490 0 (.bool false); have hcz16_1 := cB BK490 1 (.string (⟨#[]⟩ : ByteArray)); have hcz16_2 := cB BK490 2 (.string (⟨#[]⟩ : ByteArray)); have hfz16_0 := fB BK490 0; have hfz16_1 := fB BK490 1; have hfz16_2 := fB BK490 2))
  refine bodyPost_ret (results_cell_row rfl _ _ gb490 29 #[.bool false, .string (⟨#[]⟩ : ByteArray), .string (⟨#[]⟩ : ByteArray)] (0, 0) _ rfl (bC BK490) Tryd.underlying29 rfl (by kernel_rfl)) rfl ?_
  exact ⟨zE, zH⟩
def Q1reduced.f (k : Nat) (a0 : Bool) (a1 : ByteArray) (a2 : ByteArray) : Option (Bool × ByteArray × ByteArray) := (N1Normalize.f k a1).bind fun t493 => ((N1Normalize.f k a2).bind fun t494 => (if t493.toList = ([] : List UInt8) then (some (false, (⟨#[]⟩ : ByteArray), (⟨#[]⟩ : ByteArray))) else (if t494.toList = ([1] : List UInt8) then (some (a0, t493, (⟨#[]⟩ : ByteArray))) else ((N1GCD.f k t493 t494).bind fun t495 => (if t495.toList = ([1] : List UInt8) then (some (a0, t493, t494)) else ((N1Divide.f k t493 t495).bind fun bt496 => ((N1Divide.f k t494 t495).bind fun bt499 => (if bt499.1.toList = ([1] : List UInt8) then (some (a0, bt496.1, (⟨#[]⟩ : ByteArray))) else (some (a0, bt496.1, bt499.1))))))))))
set_option maxHeartbeats 8000000 in
set_option maxRecDepth 100000 in
theorem Q1reduced.calls (k : Nat) (a0 : Bool) (a1 : ByteArray) (a2 : ByteArray) (r1 : Bool) (r2 : ByteArray) (r3 : ByteArray) (w : World) (h : Q1reduced.f k a0 a1 a2 = some (r1, r2, r3)) :
 Calls Tryd.prog 42 #[.bool a0, .string a1, .string a2] w fun e w' => e = .returned (.agg #[.bool r1, .string r2, .string r3]) ∧ Below w.heap.size w w' := by
 have hu29 := Tryd.underlying29
 have HB := Aside0.mk (Below.refl w.heap.size w)
 have H : ((N1Normalize.f k a1).bind fun t493 => ((N1Normalize.f k a2).bind fun t494 => (if t493.toList = ([] : List UInt8) then (some (false, (⟨#[]⟩ : ByteArray), (⟨#[]⟩ : ByteArray))) else (if t494.toList = ([1] : List UInt8) then (some (a0, t493, (⟨#[]⟩ : ByteArray))) else ((N1GCD.f k t493 t494).bind fun t495 => (if t495.toList = ([1] : List UInt8) then (some (a0, t493, t494)) else ((N1Divide.f k t493 t495).bind fun bt496 => ((N1Divide.f k t494 t495).bind fun bt499 => (if bt499.1.toList = ([1] : List UInt8) then (some (a0, bt496.1, (⟨#[]⟩ : ByteArray))) else (some (a0, bt496.1, bt499.1))))))))))) = some (r1, r2, r3) := h
 clear h
 replace H := bS H
 obtain ⟨t493, A4, H⟩ := H
 replace H := bS H
 obtain ⟨t494, A5, H⟩ := H
 by_cases c6 : t493.toList = ([] : List UInt8)
 ·rw [if_pos c6] at H
  have c6b0 := beq_iff_eq.mpr c6
  have c6b1 : (t493.toList != ([] : List UInt8)) = false := bne_eq_false_iff_eq.mpr c6
  clear c6
  simp only [Option.some.injEq, Prod.mk.injEq] at H
  obtain ⟨rfl, rfl, rfl⟩ := H
  go_enter Tryd.func42, Tryd.ntmps42
  go_wp2_with (first | (refine box_evA 6 #[.bool false, .string (⟨#[]⟩ : ByteArray), .string (⟨#[]⟩ : ByteArray)] 29 ?_; intro gb492 hg w7 hbox hb; obtain ⟨n0_, n1_, n2_, n3_⟩ := bx4 w hbox hb hg; revert n0_ n1_ n2_ n3_; clear HB; intro HB BK492 GW492 GE492; clear hb hbox hg) | (refine goesLA 9 Tryd.func63 #[.string a1] ?_; (with_reducible refine (N1Normalize.calls k a1 t493 _ A4.out).mono ?_); rintro e w' ⟨rfl, ⟨nd, rfl⟩⟩; refine ⟨_, rfl, ?_⟩; (try (rw [drewN_self w7]; generalize hq_ : World.drewN w7 _ = w7; have n0_ : Aside0 (w7.heap[gb492]? = some (.cells #[.bool false, .string (⟨#[]⟩ : ByteArray), .string (⟨#[]⟩ : ByteArray)] 29 (0, 0))) := ⟨by rw [← hq_]; exact (by (with_reducible repeat (first | refine blk_drewN ?_ _ | refine blk_drew ?_ | refine blk_alloc ?_ _)); exact BK492.out)⟩; have n1_ : Aside0 (Below w.heap.size w w7) := ⟨by rw [← hq_]; exact zH⟩; clear BK492 HB hq_; have BK492 := n0_; have HB := n1_; clear n0_ n1_))) | (refine goesLA 11 Tryd.func63 #[.string a2] ?_; (with_reducible refine (N1Normalize.calls k a2 t494 _ A5.out).mono ?_); rintro e w' ⟨rfl, ⟨nd, rfl⟩⟩; refine ⟨_, rfl, ?_⟩; (try (rw [drewN_self w7]; generalize hq_ : World.drewN w7 _ = w7; have n0_ : Aside0 (w7.heap[gb492]? = some (.cells #[.bool false, .string (⟨#[]⟩ : ByteArray), .string (⟨#[]⟩ : ByteArray)] 29 (0, 0))) := ⟨by rw [← hq_]; exact (by (with_reducible repeat (first | refine blk_drewN ?_ _ | refine blk_drew ?_ | refine blk_alloc ?_ _)); exact BK492.out)⟩; have n1_ : Aside0 (Below w.heap.size w w7) := ⟨by rw [← hq_]; exact zH⟩; clear BK492 HB hq_; have BK492 := n0_; have HB := n1_; clear n0_ n1_)); have hcz8_0 := cB BK492 0 (.bool false); have hcz8_1 := cB BK492 1 (.string (⟨#[]⟩ : ByteArray)); have hcz8_2 := cB BK492 2 (.string (⟨#[]⟩ : ByteArray)); have hfz8_0 := fB BK492 0; have hfz8_1 := fB BK492 1; have hfz8_2 := fB BK492 2))
  refine bodyPost_ret (results_cell_row rfl _ _ gb492 29 #[.bool false, .string (⟨#[]⟩ : ByteArray), .string (⟨#[]⟩ : ByteArray)] (0, 0) _ rfl (bC BK492) Tryd.underlying29 rfl (by kernel_rfl)) rfl ?_
  exact ⟨zE, zH⟩
 ·rw [if_neg c6] at H
  have c6b0 := beq_eq_false_iff_ne.mpr c6
  have c6b1 := bne_iff_ne.mpr c6
  by_cases c9 : t494.toList = ([1] : List UInt8)
  ·rw [if_pos c9] at H
   have c9b0 := beq_iff_eq.mpr c9
   have c9b1 : (t494.toList != ([1] : List UInt8)) = false := bne_eq_false_iff_eq.mpr c9
   clear c9
   simp only [Option.some.injEq, Prod.mk.injEq] at H
   obtain ⟨rfl, rfl, rfl⟩ := H
   go_enter Tryd.func42, Tryd.ntmps42
   go_wp2_with (first | (refine box_evA 6 #[.bool false, .string (⟨#[]⟩ : ByteArray), .string (⟨#[]⟩ : ByteArray)] 29 ?_; intro gb492 hg w10 hbox hb; obtain ⟨n0_, n1_, n2_, n3_⟩ := bx4 w hbox hb hg; revert n0_ n1_ n2_ n3_; clear HB; intro HB BK492 GW492 GE492; clear hb hbox hg) | (refine goesLA 9 Tryd.func63 #[.string a1] ?_; (with_reducible refine (N1Normalize.calls k a1 t493 _ A4.out).mono ?_); rintro e w' ⟨rfl, ⟨nd, rfl⟩⟩; refine ⟨_, rfl, ?_⟩; (try (rw [drewN_self w10]; generalize hq_ : World.drewN w10 _ = w10; have n0_ : Aside0 (w10.heap[gb492]? = some (.cells #[.bool false, .string (⟨#[]⟩ : ByteArray), .string (⟨#[]⟩ : ByteArray)] 29 (0, 0))) := ⟨by rw [← hq_]; exact (by (with_reducible repeat (first | refine blk_drewN ?_ _ | refine blk_drew ?_ | refine blk_alloc ?_ _)); exact BK492.out)⟩; have n1_ : Aside0 (Below w.heap.size w w10) := ⟨by rw [← hq_]; exact zH⟩; clear BK492 HB hq_; have BK492 := n0_; have HB := n1_; clear n0_ n1_))) | (refine goesLA 11 Tryd.func63 #[.string a2] ?_; (with_reducible refine (N1Normalize.calls k a2 t494 _ A5.out).mono ?_); rintro e w' ⟨rfl, ⟨nd, rfl⟩⟩; refine ⟨_, rfl, ?_⟩; (try (rw [drewN_self w10]; generalize hq_ : World.drewN w10 _ = w10; have n0_ : Aside0 (w10.heap[gb492]? = some (.cells #[.bool false, .string (⟨#[]⟩ : ByteArray), .string (⟨#[]⟩ : ByteArray)] 29 (0, 0))) := ⟨by rw [← hq_]; exact (by (with_reducible repeat (first | refine blk_drewN ?_ _ | refine blk_drew ?_ | refine blk_alloc ?_ _)); exact BK492.out)⟩; have n1_ : Aside0 (Below w.heap.size w w10) := ⟨by rw [← hq_]; exact zH⟩; clear BK492 HB hq_; have BK492 := n0_; have HB := n1_; clear n0_ n1_)); have hcz11_0 := cB BK492 0 (.bool false); have hcz11_1 := cB BK492 1 (.string (⟨#[]⟩ : ByteArray)); have hcz11_2 := cB BK492 2 (.string (⟨#[]⟩ : ByteArray)); have hfz11_0 := fB BK492 0; have hfz11_1 := fB BK492 1; have hfz11_2 := fB BK492 2))
   refine bodyPost_ret (results_cell_row rfl _ _ gb492 29 #[.bool a0, .string t493, .string (⟨#[]⟩ : ByteArray)] (0, 0) _ rfl (bC BK492) Tryd.underlying29 rfl (by kernel_rfl)) rfl ?_
   exact ⟨zE, zH⟩
  ·rw [if_neg c9] at H
   have c9b0 := beq_eq_false_iff_ne.mpr c9
   have c9b1 := bne_iff_ne.mpr c9
   replace H := bS H
   obtain ⟨t495, A12, H⟩ := H
   by_cases c13 : t495.toList = ([1] : List UInt8)
   ·rw [if_pos c13] at H
    have c13b0 := beq_iff_eq.mpr c13
    have c13b1 : (t495.toList != ([1] : List UInt8)) = false := bne_eq_false_iff_eq.mpr c13
    clear c13
    simp only [Option.some.injEq, Prod.mk.injEq] at H
    obtain ⟨rfl, rfl, rfl⟩ := H
    go_enter Tryd.func42, Tryd.ntmps42
    go_wp2_with (first | (refine box_evA 6 #[.bool false, .string (⟨#[]⟩ : ByteArray), .string (⟨#[]⟩ : ByteArray)] 29 ?_; intro gb492 hg w14 hbox hb; obtain ⟨n0_, n1_, n2_, n3_⟩ := bx4 w hbox hb hg; revert n0_ n1_ n2_ n3_; clear HB; intro HB BK492 GW492 GE492; clear hb hbox hg) | (refine goesLA 9 Tryd.func63 #[.string a1] ?_; (with_reducible refine (N1Normalize.calls k a1 t493 _ A4.out).mono ?_); rintro e w' ⟨rfl, ⟨nd, rfl⟩⟩; refine ⟨_, rfl, ?_⟩; (try (rw [drewN_self w14]; generalize hq_ : World.drewN w14 _ = w14; have n0_ : Aside0 (w14.heap[gb492]? = some (.cells #[.bool false, .string (⟨#[]⟩ : ByteArray), .string (⟨#[]⟩ : ByteArray)] 29 (0, 0))) := ⟨by rw [← hq_]; exact (by (with_reducible repeat (first | refine blk_drewN ?_ _ | refine blk_drew ?_ | refine blk_alloc ?_ _)); exact BK492.out)⟩; have n1_ : Aside0 (Below w.heap.size w w14) := ⟨by rw [← hq_]; exact zH⟩; clear BK492 HB hq_; have BK492 := n0_; have HB := n1_; clear n0_ n1_))) | (refine goesLA 11 Tryd.func63 #[.string a2] ?_; (with_reducible refine (N1Normalize.calls k a2 t494 _ A5.out).mono ?_); rintro e w' ⟨rfl, ⟨nd, rfl⟩⟩; refine ⟨_, rfl, ?_⟩; (try (rw [drewN_self w14]; generalize hq_ : World.drewN w14 _ = w14; have n0_ : Aside0 (w14.heap[gb492]? = some (.cells #[.bool false, .string (⟨#[]⟩ : ByteArray), .string (⟨#[]⟩ : ByteArray)] 29 (0, 0))) := ⟨by rw [← hq_]; exact (by (with_reducible repeat (first | refine blk_drewN ?_ _ | refine blk_drew ?_ | refine blk_alloc ?_ _)); exact BK492.out)⟩; have n1_ : Aside0 (Below w.heap.size w w14) := ⟨by rw [← hq_]; exact zH⟩; clear BK492 HB hq_; have BK492 := n0_; have HB := n1_; clear n0_ n1_))) | (refine goesLA 19 Tryd.func64 #[.string t493, .string t494] ?_; (with_reducible refine (N1GCD.calls k t493 t494 t495 _ A12.out).mono ?_); rintro e w15 ⟨rfl, hb⟩; refine ⟨_, rfl, ?_⟩; have n0_ := bB BK492 hb; have n1_ := sB hb; revert n0_ n1_; clear BK492 HB; intro BK492 HB; (try clear hb); (try clear hb2); (try clear hk); (try clear hi); have hcz16_0 := cB BK492 0 (.bool false); have hcz16_1 := cB BK492 1 (.string (⟨#[]⟩ : ByteArray)); have hcz16_2 := cB BK492 2 (.string (⟨#[]⟩ : ByteArray)); have hfz16_0 := fB BK492 0; have hfz16_1 := fB BK492 1; have hfz16_2 := fB BK492 2))
    refine bodyPost_ret (results_cell_row rfl _ _ gb492 29 #[.bool a0, .string t493, .string t494] (0, 0) _ rfl (bC BK492) Tryd.underlying29 rfl (by kernel_rfl)) rfl ?_
    exact ⟨zE, zH⟩
   ·rw [if_neg c13] at H
    have c13b0 := beq_eq_false_iff_ne.mpr c13
    have c13b1 := bne_iff_ne.mpr c13
    replace H := bS H
    obtain ⟨⟨t496, t497, t498⟩, A17, H⟩ := H
    (try dsimp only at H)
    replace H := bS H
    obtain ⟨⟨t499, t500, t501⟩, A18, H⟩ := H
    (try dsimp only at H)
    by_cases c19 : t499.toList = ([1] : List UInt8)
    ·rw [if_pos c19] at H
     have c19b0 := beq_iff_eq.mpr c19
     have c19b1 : (t499.toList != ([1] : List UInt8)) = false := bne_eq_false_iff_eq.mpr c19
     clear c19
     simp only [Option.some.injEq, Prod.mk.injEq] at H
     obtain ⟨rfl, rfl, rfl⟩ := H
     go_enter Tryd.func42, Tryd.ntmps42
     go_wp2_with (first | (refine box_evA 6 #[.bool false, .string (⟨#[]⟩ : ByteArray), .string (⟨#[]⟩ : ByteArray)] 29 ?_; intro gb492 hg w20 hbox hb; obtain ⟨n0_, n1_, n2_, n3_⟩ := bx4 w hbox hb hg; revert n0_ n1_ n2_ n3_; clear HB; intro HB BK492 GW492 GE492; clear hb hbox hg) | (refine goesLA 9 Tryd.func63 #[.string a1] ?_; (with_reducible refine (N1Normalize.calls k a1 t493 _ A4.out).mono ?_); rintro e w' ⟨rfl, ⟨nd, rfl⟩⟩; refine ⟨_, rfl, ?_⟩; (try (rw [drewN_self w20]; generalize hq_ : World.drewN w20 _ = w20; have n0_ : Aside0 (w20.heap[gb492]? = some (.cells #[.bool false, .string (⟨#[]⟩ : ByteArray), .string (⟨#[]⟩ : ByteArray)] 29 (0, 0))) := ⟨by rw [← hq_]; exact (by (with_reducible repeat (first | refine blk_drewN ?_ _ | refine blk_drew ?_ | refine blk_alloc ?_ _)); exact BK492.out)⟩; have n1_ : Aside0 (Below w.heap.size w w20) := ⟨by rw [← hq_]; exact zH⟩; clear BK492 HB hq_; have BK492 := n0_; have HB := n1_; clear n0_ n1_))) | (refine goesLA 11 Tryd.func63 #[.string a2] ?_; (with_reducible refine (N1Normalize.calls k a2 t494 _ A5.out).mono ?_); rintro e w' ⟨rfl, ⟨nd, rfl⟩⟩; refine ⟨_, rfl, ?_⟩; (try (rw [drewN_self w20]; generalize hq_ : World.drewN w20 _ = w20; have n0_ : Aside0 (w20.heap[gb492]? = some (.cells #[.bool false, .string (⟨#[]⟩ : ByteArray), .string (⟨#[]⟩ : ByteArray)] 29 (0, 0))) := ⟨by rw [← hq_]; exact (by (with_reducible repeat (first | refine blk_drewN ?_ _ | refine blk_drew ?_ | refine blk_alloc ?_ _)); exact BK492.out)⟩; have n1_ : Aside0 (Below w.heap.size w w20) := ⟨by rw [← hq_]; exact zH⟩; clear BK492 HB hq_; have BK492 := n0_; have HB := n1_; clear n0_ n1_))) | (refine goesLA 19 Tryd.func64 #[.string t493, .string t494] ?_; (with_reducible refine (N1GCD.calls k t493 t494 t495 _ A12.out).mono ?_); rintro e w21 ⟨rfl, hb⟩; refine ⟨_, rfl, ?_⟩; have n0_ := bB BK492 hb; have n1_ := sB hb; revert n0_ n1_; clear BK492 HB; intro BK492 HB; (try clear hb); (try clear hb2); (try clear hk); (try clear hi)) | (refine goesLA 25 Tryd.func65 #[.string t493, .string t495] ?_; (with_reducible refine (N1Divide.calls k t493 t495 t496 t497 t498 _ A17.out).mono ?_); rintro e w22 ⟨rfl, hb⟩; refine ⟨_, rfl, ?_⟩; have n0_ := bB BK492 hb; have n1_ := sB hb; revert n0_ n1_; clear BK492 HB; intro BK492 HB; (try clear hb); (try clear hb2); (try clear hk); (try clear hi)) | (refine goesLA 32 Tryd.func65 #[.string t494, .string t495] ?_; (with_reducible refine (N1Divide.calls k t494 t495 t499 t500 t501 _ A18.out).mono ?_); rintro e w23 ⟨rfl, hb⟩; refine ⟨_, rfl, ?_⟩; have n0_ := bB BK492 hb; have n1_ := sB hb; revert n0_ n1_; clear BK492 HB; intro BK492 HB; (try clear hb); (try clear hb2); (try clear hk); (try clear hi); have hcz24_0 := cB BK492 0 (.bool false); have hcz24_1 := cB BK492 1 (.string (⟨#[]⟩ : ByteArray)); have hcz24_2 := cB BK492 2 (.string (⟨#[]⟩ : ByteArray)); have hfz24_0 := fB BK492 0; have hfz24_1 := fB BK492 1; have hfz24_2 := fB BK492 2))
     refine bodyPost_ret (results_cell_row rfl _ _ gb492 29 #[.bool a0, .string t496, .string (⟨#[]⟩ : ByteArray)] (0, 0) _ rfl (bC BK492) Tryd.underlying29 rfl (by kernel_rfl)) rfl ?_
     exact ⟨zE, zH⟩
    ·rw [if_neg c19] at H
     have c19b0 := beq_eq_false_iff_ne.mpr c19
     have c19b1 := bne_iff_ne.mpr c19
     simp only [Option.some.injEq, Prod.mk.injEq] at H
     obtain ⟨rfl, rfl, rfl⟩ := H
     go_enter Tryd.func42, Tryd.ntmps42
     go_wp2_with (first | (refine box_evA 6 #[.bool false, .string (⟨#[]⟩ : ByteArray), .string (⟨#[]⟩ : ByteArray)] 29 ?_; intro gb492 hg w25 hbox hb; obtain ⟨n0_, n1_, n2_, n3_⟩ := bx4 w hbox hb hg; revert n0_ n1_ n2_ n3_; clear HB; intro HB BK492 GW492 GE492; clear hb hbox hg) | (refine goesLA 9 Tryd.func63 #[.string a1] ?_; (with_reducible refine (N1Normalize.calls k a1 t493 _ A4.out).mono ?_); rintro e w' ⟨rfl, ⟨nd, rfl⟩⟩; refine ⟨_, rfl, ?_⟩; (try (rw [drewN_self w25]; generalize hq_ : World.drewN w25 _ = w25; have n0_ : Aside0 (w25.heap[gb492]? = some (.cells #[.bool false, .string (⟨#[]⟩ : ByteArray), .string (⟨#[]⟩ : ByteArray)] 29 (0, 0))) := ⟨by rw [← hq_]; exact (by (with_reducible repeat (first | refine blk_drewN ?_ _ | refine blk_drew ?_ | refine blk_alloc ?_ _)); exact BK492.out)⟩; have n1_ : Aside0 (Below w.heap.size w w25) := ⟨by rw [← hq_]; exact zH⟩; clear BK492 HB hq_; have BK492 := n0_; have HB := n1_; clear n0_ n1_))) | (refine goesLA 11 Tryd.func63 #[.string a2] ?_; (with_reducible refine (N1Normalize.calls k a2 t494 _ A5.out).mono ?_); rintro e w' ⟨rfl, ⟨nd, rfl⟩⟩; refine ⟨_, rfl, ?_⟩; (try (rw [drewN_self w25]; generalize hq_ : World.drewN w25 _ = w25; have n0_ : Aside0 (w25.heap[gb492]? = some (.cells #[.bool false, .string (⟨#[]⟩ : ByteArray), .string (⟨#[]⟩ : ByteArray)] 29 (0, 0))) := ⟨by rw [← hq_]; exact (by (with_reducible repeat (first | refine blk_drewN ?_ _ | refine blk_drew ?_ | refine blk_alloc ?_ _)); exact BK492.out)⟩; have n1_ : Aside0 (Below w.heap.size w w25) := ⟨by rw [← hq_]; exact zH⟩; clear BK492 HB hq_; have BK492 := n0_; have HB := n1_; clear n0_ n1_))) | (refine goesLA 19 Tryd.func64 #[.string t493, .string t494] ?_; (with_reducible refine (N1GCD.calls k t493 t494 t495 _ A12.out).mono ?_); rintro e w26 ⟨rfl, hb⟩; refine ⟨_, rfl, ?_⟩; have n0_ := bB BK492 hb; have n1_ := sB hb; revert n0_ n1_; clear BK492 HB; intro BK492 HB; (try clear hb); (try clear hb2); (try clear hk); (try clear hi)) | (refine goesLA 25 Tryd.func65 #[.string t493, .string t495] ?_; (with_reducible refine (N1Divide.calls k t493 t495 t496 t497 t498 _ A17.out).mono ?_); rintro e w27 ⟨rfl, hb⟩; refine ⟨_, rfl, ?_⟩; have n0_ := bB BK492 hb; have n1_ := sB hb; revert n0_ n1_; clear BK492 HB; intro BK492 HB; (try clear hb); (try clear hb2); (try clear hk); (try clear hi)) | (refine goesLA 32 Tryd.func65 #[.string t494, .string t495] ?_; (with_reducible refine (N1Divide.calls k t494 t495 t499 t500 t501 _ A18.out).mono ?_); rintro e w28 ⟨rfl, hb⟩; refine ⟨_, rfl, ?_⟩; have n0_ := bB BK492 hb; have n1_ := sB hb; revert n0_ n1_; clear BK492 HB; intro BK492 HB; (try clear hb); (try clear hb2); (try clear hk); (try clear hi); have hcz29_0 := cB BK492 0 (.bool false); have hcz29_1 := cB BK492 1 (.string (⟨#[]⟩ : ByteArray)); have hcz29_2 := cB BK492 2 (.string (⟨#[]⟩ : ByteArray)); have hfz29_0 := fB BK492 0; have hfz29_1 := fB BK492 1; have hfz29_2 := fB BK492 2))
     refine bodyPost_ret (results_cell_row rfl _ _ gb492 29 #[.bool a0, .string t496, .string t499] (0, 0) _ rfl (bC BK492) Tryd.underlying29 rfl (by kernel_rfl)) rfl ?_
     exact ⟨zE, zH⟩
def Q1den.f (a0_0 : Bool) (a0_1 : ByteArray) (a0_2 : ByteArray) : Option (ByteArray) := if a0_2.toList = ([] : List UInt8) then (some (⟨#[1]⟩ : ByteArray)) else (some a0_2)
set_option maxHeartbeats 8000000 in
set_option maxRecDepth 100000 in
theorem Q1den.calls (a0_0 : Bool) (a0_1 : ByteArray) (a0_2 : ByteArray) (r : ByteArray) (w : World) (h : Q1den.f a0_0 a0_1 a0_2 = some r) :
 Calls Tryd.prog 44 #[.agg #[.bool a0_0, .string a0_1, .string a0_2]] w fun e w' => e = .returned (.string r) ∧ Below w.heap.size w w' := by
 have hu29 := Tryd.underlying29
 have HB := Aside0.mk (Below.refl w.heap.size w)
 have H : (if a0_2.toList = ([] : List UInt8) then (some (⟨#[1]⟩ : ByteArray)) else (some a0_2)) = some r := h
 clear h
 by_cases c2 : a0_2.toList = ([] : List UInt8)
 ·rw [if_pos c2] at H
  have c2b0 := beq_iff_eq.mpr c2
  have c2b1 : (a0_2.toList != ([] : List UInt8)) = false := bne_eq_false_iff_eq.mpr c2
  clear c2
  obtain rfl := Option.some.inj H
  go_enter Tryd.func44, Tryd.ntmps44
  go_wp2_with (first | (refine box_evA 1 #[.bool a0_0, .string a0_1, .string a0_2] 29 ?_; intro gb502 hg w3 hbox hb; obtain ⟨n0_, n1_, n2_, n3_⟩ := bx4 w hbox hb hg; revert n0_ n1_ n2_ n3_; clear HB; intro HB BK502 GW502 GE502; clear hb hbox hg; have hcz4_0 := cB BK502 0 (.bool a0_0); have hcz4_1 := cB BK502 1 (.string a0_1); have hcz4_2 := cB BK502 2 (.string a0_2); have hfz4_0 := fB BK502 0; have hfz4_1 := fB BK502 1; have hfz4_2 := fB BK502 2))
  go_ret
  exact ⟨zE, zH⟩
 ·rw [if_neg c2] at H
  have c2b0 := beq_eq_false_iff_ne.mpr c2
  have c2b1 := bne_iff_ne.mpr c2
  obtain rfl := Option.some.inj H
  go_enter Tryd.func44, Tryd.ntmps44
  go_wp2_with (first | (refine box_evA 1 #[.bool a0_0, .string a0_1, .string a0_2] 29 ?_; intro gb502 hg w5 hbox hb; obtain ⟨n0_, n1_, n2_, n3_⟩ := bx4 w hbox hb hg; revert n0_ n1_ n2_ n3_; clear HB; intro HB BK502 GW502 GE502; clear hb hbox hg; have hcz6_0 := cB BK502 0 (.bool a0_0); have hcz6_1 := cB BK502 1 (.string a0_1); have hcz6_2 := cB BK502 2 (.string a0_2); have hfz6_0 := fB BK502 0; have hfz6_1 := fB BK502 1; have hfz6_2 := fB BK502 2))
  go_ret
  exact ⟨zE, zH⟩
end Go.Proofs.YtggfilmdfpmbmaaDoor.QN
end
section
namespace Go.Proofs.YtggfilmdfpmbmaaDoor.QN
open Go.RowKit Go.Proofs.YtggfilmdfpmbmaaDoorW.PrintWords Go.Proofs.YtggfilmdfpmbmaaDoorW.PrintLast Go.Proofs.YtggfilmdfpmbmaaDoorW.PrintMore
attribute [local go_sem] max2_int min2_int max_two min_two max_three min_three max_four min_four   -- for this text's walks alone
set_option linter.unusedVariables false
set_option linter.unusedSimpArgs false
def Q1Multiply.f (k : Nat) (a0_0 : Bool) (a0_1 : ByteArray) (a0_2 : ByteArray) (a1_0 : Bool) (a1_1 : ByteArray) (a1_2 : ByteArray) : Option (Bool × ByteArray × ByteArray) := (Q1clean.f k a0_0 a0_1 a0_2).bind fun bt506 => ((Q1clean.f k a1_0 a1_1 a1_2).bind fun bt509 => ((N1Multiply.f k bt506.2.1 bt509.2.1).bind fun t512 => ((Q1den.f bt506.1 bt506.2.1 bt506.2.2).bind fun t513 => ((Q1den.f bt509.1 bt509.2.1 bt509.2.2).bind fun t514 => ((N1Multiply.f k t513 t514).bind fun t515 => ((Q1reduced.f k (bt506.1 != bt509.1) t512 t515).bind fun bt516 => (some (bt516.1, bt516.2.1, bt516.2.2))))))))
def Q1Multiply.T2 : Bool × List (List Nat × List Nat) := (true, [([], []), ([0], [0]), ([], []), ([2], [2]), ([1, 3], [1, 3]), ([], []), ([5], [5]), ([], []), ([7], [7]), ([6, 8], [6, 8]), ([], []), ([10, 9], [10]), ([], []), ([12, 11], [12]), ([11, 13, 13], [11, 13]), ([4, 9, 14, 14], [4, 9, 14]), ([15, 15, 0, 1, 2, 3, 4, 5, 6, 7, 8, 9, 10, 11, 12, 13, 14, 15], [15])])
def Q1Multiply.B2 : List Nat := [0, 1, 0, 4, 15, 0, 32, 0, 128, 480, 0, 2016, 0, 8160, 16352, 32767, 65535]
theorem Q1Multiply.tab2 : rtab .any (opsOf Tryd.f19 2) = Q1Multiply.T2 := by kernel_rfl
theorem Q1Multiply.bits2 : waitsOk Q1Multiply.T2.2 Q1Multiply.B2 = true := by kernel_rfl
set_option maxHeartbeats 8000000 in
set_option maxRecDepth 100000 in
theorem Q1Multiply.calls (k : Nat) (a0_0 : Bool) (a0_1 : ByteArray) (a0_2 : ByteArray) (a1_0 : Bool) (a1_1 : ByteArray) (a1_2 : ByteArray) (r1 : Bool) (r2 : ByteArray) (r3 : ByteArray) (w : World) (h : Q1Multiply.f k a0_0 a0_1 a0_2 a1_0 a1_1 a1_2 = some (r1, r2, r3)) :
 Calls Tryd.prog 19 #[.agg #[.bool a0_0, .string a0_1, .string a0_2], .agg #[.bool a1_0, .string a1_1, .string a1_2]] w fun e w' => e = .returned (.agg #[.bool r1, .string r2, .string r3]) ∧ Below w.heap.size w w' := by
 have hu29 := Tryd.underlying29
 have HB := Aside0.mk (Below.refl w.heap.size w)
 have H : ((Q1clean.f k a0_0 a0_1 a0_2).bind fun bt506 => ((Q1clean.f k a1_0 a1_1 a1_2).bind fun bt509 => ((N1Multiply.f k bt506.2.1 bt509.2.1).bind fun t512 => ((Q1den.f bt506.1 bt506.2.1 bt506.2.2).bind fun t513 => ((Q1den.f bt509.1 bt509.2.1 bt509.2.2).bind fun t514 => ((N1Multiply.f k t513 t514).bind fun t515 => ((Q1reduced.f k (bt506.1 != bt509.1) t512 t515).bind fun bt516 => (some (bt516.1, bt516.2.1, bt516.2.2))))))))) = some (r1, r2, r3) := h
 clear h
 replace H := bS H
 obtain ⟨⟨t506, t507, t508⟩, A3, H⟩ := H
 (try dsimp only at H)
 replace H := bS H
 obtain ⟨⟨t509, t510, t511⟩, A4, H⟩ := H
 (try dsimp only at H)
 replace H := bS H
 obtain ⟨t512, A5, H⟩ := H
 replace H := bS H
 obtain ⟨t513, A6, H⟩ := H
 replace H := bS H
 obtain ⟨t514, A7, H⟩ := H
 replace H := bS H
 obtain ⟨t515, A8, H⟩ := H
 replace H := bS H
 obtain ⟨⟨t516, t517, t518⟩, A9, H⟩ := H
 (try dsimp only at H)
 simp only [Option.some.injEq, Prod.mk.injEq] at H
 obtain ⟨rfl, rfl, rfl⟩ := H
 go_enter Tryd.func19, Tryd.ntmps19
 try go_wp2_with (first | (refine box_evA 2 #[.bool a0_0, .string a0_1, .string a0_2] 29 ?_; intro gb503 hg w10 hbox hb; obtain ⟨n0_, n1_, n2_, n3_⟩ := bx4 w hbox hb hg; revert n0_ n1_ n2_ n3_; clear HB; intro HB BK503 GW503 GE503; clear hb hbox hg) | (refine box_evA 3 #[.bool a1_0, .string a1_1, .string a1_2] 29 ?_; intro gb504 hg w11 hbox hb; have n0_ := bB BK503 hb; have n1_ := sB hb; have n2_ := Aside0.mk (hbox); have n3_ := wE w hg; have n4_ := wE w hg; have n5_ := Aside0.mk (nL BK503 hg); have n6_ := Aside0.mk (nG BK503 hg); revert n0_ n1_ n2_ n3_ n4_ n5_ n6_; clear BK503 HB; intro BK503 HB BK504 GW504 GE504 NB503_504 NB504_503; clear hb hbox hg) | (refine box_evA 4 #[.bool false, .string (⟨#[]⟩ : ByteArray), .string (⟨#[]⟩ : ByteArray)] 29 ?_; intro gb505 hg w12 hbox hb; have n0_ := bB BK503 hb; have n1_ := bB BK504 hb; have n2_ := sB hb; have n3_ := Aside0.mk (hbox); have n4_ := wE w hg; have n5_ := wE w hg; have n6_ := Aside0.mk (nL BK503 hg); have n7_ := Aside0.mk (nG BK503 hg); have n8_ := Aside0.mk (nL BK504 hg); have n9_ := Aside0.mk (nG BK504 hg); revert n0_ n1_ n2_ n3_ n4_ n5_ n6_ n7_ n8_ n9_; clear BK503 BK504 HB; intro BK503 BK504 HB BK505 GW505 GE505 NB503_505 NB505_503 NB504_505 NB505_504; clear hb hbox hg))
 have n0_ := Aside0.mk (blk_drew BK503.out)
 have n1_ := Aside0.mk (blk_drew BK504.out)
 have n2_ := Aside0.mk (blk_drew BK505.out)
 have n3_ := Aside0.mk (below_drew1 HB.out)
 revert n0_ n1_ n2_ n3_
 clear BK503 BK504 BK505 HB
 intro BK503 BK504 BK505 HB
 refine start_ (n := 6) (S := fun w' => w'.cell? ⟨gb503, 0, none⟩ = some (.bool a0_0) ∧ w'.cell? ⟨gb503, 1, none⟩ = some (.string a0_1) ∧ w'.cell? ⟨gb503, 2, none⟩ = some (.string a0_2) ∧ w'.cell? ⟨gb504, 0, none⟩ = some (.bool a1_0) ∧ w'.cell? ⟨gb504, 1, none⟩ = some (.string a1_1) ∧ w'.cell? ⟨gb504, 2, none⟩ = some (.string a1_2)) (ds := [4, 5]) #[false, false, false, false, false, false] (by kernel_rfl) rfl rfl ⟨cA BK503 0, cA BK503 1, cA BK503 2, cA BK504 0, cA BK504 1, cA BK504 2⟩ (fun hHeld => ?_)
 generalize w12.drew = w13 at BK503 BK504 BK505 HB hHeld ⊢
 refine takeAk 0 5 (lB 6 1) rfl rfl hHeld ?_
 refine takeAk 2 7 (lB 6 5) rfl rfl hHeld ?_
 refine oneAk 1 6 (lB 6 7) rfl rfl (fun K hK => ?_)
 refine goes_ Tryd.func41 (by kernel_rfl) rfl #[.agg #[.bool a0_0, .string a0_1, .string a0_2]] (by rfl) rfl rfl zq2 ?_
 with_reducible refine (Q1clean.calls k a0_0 a0_1 a0_2 t506 t507 t508 _ A3.out).mono ?_
 rintro e w14 ⟨rfl, hb⟩
 refine ⟨_, rfl, ?_⟩
 have n0_ := bB BK503 hb
 have n1_ := bB BK504 hb
 have n2_ := bB BK505 hb
 have n3_ := sB hb
 revert n0_ n1_ n2_ n3_
 clear BK503 BK504 BK505 HB
 intro BK503 BK504 BK505 HB
 (try clear hb); (try clear hb2); (try clear hk); (try clear hi)
 refine hK.out _ _ ⟨cA BK503 0, cA BK503 1, cA BK503 2, cA BK504 0, cA BK504 1, cA BK504 2⟩ (fun hHeld => ?_)
 clear hK K
 refine normA (N := 6) ?_
 refine oneAk 3 8 (lB 6 15) rfl rfl (fun K hK => ?_)
 refine goes_ Tryd.func41 (by kernel_rfl) rfl #[.agg #[.bool a1_0, .string a1_1, .string a1_2]] (by rfl) rfl rfl zq2 ?_
 with_reducible refine (Q1clean.calls k a1_0 a1_1 a1_2 t509 t510 t511 _ A4.out).mono ?_
 rintro e w15 ⟨rfl, hb⟩
 refine ⟨_, rfl, ?_⟩
 have n0_ := bB BK503 hb
 have n1_ := bB BK504 hb
 have n2_ := bB BK505 hb
 have n3_ := sB hb
 revert n0_ n1_ n2_ n3_
 clear BK503 BK504 BK505 HB
 intro BK503 BK504 BK505 HB
 (try clear hb); (try clear hb2); (try clear hk); (try clear hi)
 refine hK.out _ _ ⟨cA BK503 0, cA BK503 1, cA BK503 2, cA BK504 0, cA BK504 1, cA BK504 2⟩ (fun hHeld => ?_)
 clear hK K
 refine normA (N := 8) ?_
 refine last_ (i := 4) (N := none) (lB 6 31) rfl rfl (by kernel_rfl) (by decide) (fun K hK => ?_)
 have hs16 := cB BK503 0 (.bool a0_0)
 have hfs16 := fB BK503 0
 have hns16_1 := NB504_503.out
 have hns16_2 := NB505_503.out
 have hms16_1 := NB503_504.out
 have hms16_2 := NB503_505.out
 have hs17 := cB BK503 1 (.string a0_1)
 have hfs17 := fB BK503 1
 have hns17_1 := NB504_503.out
 have hns17_2 := NB505_503.out
 have hms17_1 := NB503_504.out
 have hms17_2 := NB503_505.out
 have hs18 := cB BK503 2 (.string a0_2)
 have hfs18 := fB BK503 2
 have hns18_1 := NB504_503.out
 have hns18_2 := NB505_503.out
 have hms18_1 := NB503_504.out
 have hms18_2 := NB503_505.out
 refine skip_ (w1 := ?_) (by rfl) rfl ?_ ?_
 rotate_left
 ·go_simp
  rfl
 refine hK.out _ _ ?_
 clear hK K
 refine last_ (i := 5) (N := none) (lB 6 63) rfl rfl (by kernel_rfl) (by decide) (fun K hK => ?_)
 have hs19 := cB BK504 0 (.bool a1_0)
 have hfs19 := fB BK504 0
 have hns19_0 := NB503_504.out
 have hns19_2 := NB505_504.out
 have hms19_0 := NB504_503.out
 have hms19_2 := NB504_505.out
 have hs20 := cB BK504 1 (.string a1_1)
 have hfs20 := fB BK504 1
 have hns20_0 := NB503_504.out
 have hns20_2 := NB505_504.out
 have hms20_0 := NB504_503.out
 have hms20_2 := NB504_505.out
 have hs21 := cB BK504 2 (.string a1_2)
 have hfs21 := fB BK504 2
 have hns21_0 := NB503_504.out
 have hns21_2 := NB505_504.out
 have hms21_0 := NB504_503.out
 have hms21_2 := NB504_505.out
 refine skip_ (w1 := ?_) (by rfl) rfl ?_ ?_
 rotate_left
 ·go_simp
  rfl
 refine hK.out _ _ ?_
 clear hK K
 refine done_ (by kernel_rfl) ?_
 try go_wp2
 generalize hW_ : ((((((w15.setCell ⟨gb503, 0, none⟩ (.bool t506)).setCell ⟨gb503, 1, none⟩ (.string t507)).setCell ⟨gb503, 2, none⟩ (.string t508)).setCell ⟨gb504, 0, none⟩ (.bool t509)).setCell ⟨gb504, 1, none⟩ (.string t510)).setCell ⟨gb504, 2, none⟩ (.string t511)) = w22
 have n0_ : Aside0 (w22.heap[gb503]? = some (.cells #[.bool t506, .string t507, .string t508] 29 (0, 0))) := ⟨by subst hW_; exact bC BK503⟩
 have n1_ : Aside0 (w22.heap[gb504]? = some (.cells #[.bool t509, .string t510, .string t511] 29 (0, 0))) := ⟨by subst hW_; exact bC BK504⟩
 have n2_ : Aside0 (w22.heap[gb505]? = some (.cells #[.bool false, .string (⟨#[]⟩ : ByteArray), .string (⟨#[]⟩ : ByteArray)] 29 (0, 0))) := ⟨by subst hW_; exact bC BK505⟩
 have n3_ : Aside0 (Below w.heap.size w w22) := ⟨by subst hW_; exact zH⟩
 clear hW_
 (try clear BK503); (try clear BK504); (try clear BK505); (try clear HB)
 have BK503 := n0_
 have BK504 := n1_
 have BK505 := n2_
 have HB := n3_
 clear n0_ n1_ n2_ n3_
 have n0_ := Aside0.mk (blk_drew BK503.out)
 have n1_ := Aside0.mk (blk_drew BK504.out)
 have n2_ := Aside0.mk (blk_drew BK505.out)
 have n3_ := Aside0.mk (below_drew1 HB.out)
 revert n0_ n1_ n2_ n3_
 clear BK503 BK504 BK505 HB
 intro BK503 BK504 BK505 HB
 refine start_ (n := 17) (S := fun w' => w'.cell? ⟨gb503, 0, none⟩ = some (.bool t506) ∧ w'.cell? ⟨gb503, 1, none⟩ = some (.string t507) ∧ w'.cell? ⟨gb503, 2, none⟩ = some (.string t508) ∧ w'.cell? ⟨gb504, 0, none⟩ = some (.bool t509) ∧ w'.cell? ⟨gb504, 1, none⟩ = some (.string t510) ∧ w'.cell? ⟨gb504, 2, none⟩ = some (.string t511)) (ds := []) #[false, false, false, false, false, false, false, false, false, false, false, false, false, false, false, false, false] (by kernel_rfl) rfl rfl ⟨cA BK503 0, cA BK503 1, cA BK503 2, cA BK504 0, cA BK504 1, cA BK504 2⟩ (fun hHeld => ?_); refine with_tabW Q1Multiply.tab2 Q1Multiply.bits2 (fun HT_ HW_ => ?_)
 generalize w22.drew = w23 at BK503 BK504 BK505 HB hHeld ⊢
 refine pureA 0 9 (lB 17 1) rfl rfl ?_
 refine pureA 2 11 (lB 17 5) rfl rfl ?_
 refine pureA 5 14 (lB 17 37) rfl rfl ?_
 refine pureA 7 16 (lB 17 165) rfl rfl ?_
 refine takeA 1 10 (lB 17 167) rfl rfl hHeld ?_
 refine takeA 3 12 (lB 17 175) rfl rfl hHeld ?_
 refine pureA 4 13 (lB 17 191) rfl rfl ?_
 refine takeA 6 15 (lB 17 255) rfl rfl hHeld ?_
 refine takeA 8 17 (lB 17 511) rfl rfl hHeld ?_
 refine takeA 10 19 (lB 17 1535) rfl rfl hHeld ?_
 refine takeA 12 21 (lB 17 5631) rfl rfl hHeld ?_
 refine oneA 9 18 (lB 17 6143) rfl rfl (fun K hK => ?_)
 refine goes_ Tryd.func43 (by kernel_rfl) rfl #[.string t507, .string t510] (by rfl) rfl rfl zq2 ?_
 with_reducible refine (N1Multiply.calls k t507 t510 t512 _ A5.out).mono ?_
 rintro e w24 ⟨rfl, hb⟩
 refine ⟨_, rfl, ?_⟩
 have n0_ := bB BK503 hb
 have n1_ := bB BK504 hb
 have n2_ := bB BK505 hb
 have n3_ := sB hb
 revert n0_ n1_ n2_ n3_
 clear BK503 BK504 BK505 HB
 intro BK503 BK504 BK505 HB
 (try clear hb); (try clear hb2); (try clear hk); (try clear hi)
 refine hK.out _ _ ⟨cA BK503 0, cA BK503 1, cA BK503 2, cA BK504 0, cA BK504 1, cA BK504 2⟩ (fun hHeld => ?_)
 clear hK K
 refine normA (N := 18) ?_
 refine oneA 11 20 (lB 17 8191) rfl rfl (fun K hK => ?_)
 refine goes_ Tryd.func44 (by kernel_rfl) rfl #[.agg #[.bool t506, .string t507, .string t508]] (by rfl) rfl rfl zq2 ?_
 with_reducible refine (Q1den.calls t506 t507 t508 t513 _ A6.out).mono ?_
 rintro e w25 ⟨rfl, hb⟩
 refine ⟨_, rfl, ?_⟩
 have n0_ := bB BK503 hb
 have n1_ := bB BK504 hb
 have n2_ := bB BK505 hb
 have n3_ := sB hb
 revert n0_ n1_ n2_ n3_
 clear BK503 BK504 BK505 HB
 intro BK503 BK504 BK505 HB
 (try clear hb); (try clear hb2); (try clear hk); (try clear hi)
 refine hK.out _ _ ⟨cA BK503 0, cA BK503 1, cA BK503 2, cA BK504 0, cA BK504 1, cA BK504 2⟩ (fun hHeld => ?_)
 clear hK K
 refine normA (N := 20) ?_
 refine oneA 13 22 (lB 17 16383) rfl rfl (fun K hK => ?_)
 refine goes_ Tryd.func44 (by kernel_rfl) rfl #[.agg #[.bool t509, .string t510, .string t511]] (by rfl) rfl rfl zq2 ?_
 with_reducible refine (Q1den.calls t509 t510 t511 t514 _ A7.out).mono ?_
 rintro e w26 ⟨rfl, hb⟩
 refine ⟨_, rfl, ?_⟩
 have n0_ := bB BK503 hb
 have n1_ := bB BK504 hb
 have n2_ := bB BK505 hb
 have n3_ := sB hb
 revert n0_ n1_ n2_ n3_
 clear BK503 BK504 BK505 HB
 intro BK503 BK504 BK505 HB
 (try clear hb); (try clear hb2); (try clear hk); (try clear hi)
 refine hK.out _ _ ⟨cA BK503 0, cA BK503 1, cA BK503 2, cA BK504 0, cA BK504 1, cA BK504 2⟩ (fun hHeld => ?_)
 clear hK K
 refine normA (N := 22) ?_
 refine oneA 14 23 (lB 17 32767) rfl rfl (fun K hK => ?_)
 refine goes_ Tryd.func43 (by kernel_rfl) rfl #[.string t513, .string t514] (by rfl) rfl rfl zq2 ?_
 with_reducible refine (N1Multiply.calls k t513 t514 t515 _ A8.out).mono ?_
 rintro e w27 ⟨rfl, hb⟩
 refine ⟨_, rfl, ?_⟩
 have n0_ := bB BK503 hb
 have n1_ := bB BK504 hb
 have n2_ := bB BK505 hb
 have n3_ := sB hb
 revert n0_ n1_ n2_ n3_
 clear BK503 BK504 BK505 HB
 intro BK503 BK504 BK505 HB
 (try clear hb); (try clear hb2); (try clear hk); (try clear hi)
 refine hK.out _ _ ⟨cA BK503 0, cA BK503 1, cA BK503 2, cA BK504 0, cA BK504 1, cA BK504 2⟩ (fun hHeld => ?_)
 clear hK K
 refine normA (N := 23) ?_
 refine oneA 15 24 (lB 17 65535) rfl rfl (fun K hK => ?_)
 refine goes_ Tryd.func42 (by kernel_rfl) rfl #[.bool (t506 != t509), .string t512, .string t515] (by rfl) rfl rfl zq2 ?_
 with_reducible refine (Q1reduced.calls k (t506 != t509) t512 t515 t516 t517 t518 _ A9.out).mono ?_
 rintro e w28 ⟨rfl, hb⟩
 refine ⟨_, rfl, ?_⟩
 have n0_ := bB BK503 hb
 have n1_ := bB BK504 hb
 have n2_ := bB BK505 hb
 have n3_ := sB hb
 revert n0_ n1_ n2_ n3_
 clear BK503 BK504 BK505 HB
 intro BK503 BK504 BK505 HB
 (try clear hb); (try clear hb2); (try clear hk); (try clear hi)
 refine hK.out _ _ ⟨cA BK503 0, cA BK503 1, cA BK503 2, cA BK504 0, cA BK504 1, cA BK504 2⟩ (fun hHeld => ?_)
 clear hK K
 refine normA (N := 24) ?_
 refine one_ (i := 16) (N := none) (lB 17 131071) rfl rfl (one_of HT_.out (by kernel_rfl)) (by decide) (fun K hK => ?_)
 have hs29 := cB BK505 0 (.bool false)
 have hfs29 := fB BK505 0
 have hns29_0 := NB503_505.out
 have hns29_1 := NB504_505.out
 have hms29_0 := NB505_503.out
 have hms29_1 := NB505_504.out
 have hs30 := cB BK505 1 (.string (⟨#[]⟩ : ByteArray))
 have hfs30 := fB BK505 1
 have hns30_0 := NB503_505.out
 have hns30_1 := NB504_505.out
 have hms30_0 := NB505_503.out
 have hms30_1 := NB505_504.out
 have hs31 := cB BK505 2 (.string (⟨#[]⟩ : ByteArray))
 have hfs31 := fB BK505 2
 have hns31_0 := NB503_505.out
 have hns31_1 := NB504_505.out
 have hms31_0 := NB505_503.out
 have hms31_1 := NB505_504.out
 refine skip_ (w1 := ?_) (by rfl) rfl ?_ ?_
 rotate_left
 ·go_simp
  rfl
 refine hK.out _ _ ⟨((cell_far (p := ⟨gb505, _, none⟩) NB503_505.out _).trans (((cell_far (p := ⟨gb505, _, none⟩) NB503_505.out _).trans (((cell_far (p := ⟨gb505, _, none⟩) NB503_505.out _).trans (hHeld.1)))))), ((cell_far (p := ⟨gb505, _, none⟩) NB503_505.out _).trans (((cell_far (p := ⟨gb505, _, none⟩) NB503_505.out _).trans (((cell_far (p := ⟨gb505, _, none⟩) NB503_505.out _).trans (hHeld.2.1)))))), ((cell_far (p := ⟨gb505, _, none⟩) NB503_505.out _).trans (((cell_far (p := ⟨gb505, _, none⟩) NB503_505.out _).trans (((cell_far (p := ⟨gb505, _, none⟩) NB503_505.out _).trans (hHeld.2.2.1)))))), ((cell_far (p := ⟨gb505, _, none⟩) NB504_505.out _).trans (((cell_far (p := ⟨gb505, _, none⟩) NB504_505.out _).trans (((cell_far (p := ⟨gb505, _, none⟩) NB504_505.out _).trans (hHeld.2.2.2.1)))))), ((cell_far (p := ⟨gb505, _, none⟩) NB504_505.out _).trans (((cell_far (p := ⟨gb505, _, none⟩) NB504_505.out _).trans (((cell_far (p := ⟨gb505, _, none⟩) NB504_505.out _).trans (hHeld.2.2.2.2.1)))))), ((cell_far (p := ⟨gb505, _, none⟩) NB504_505.out _).trans (((cell_far (p := ⟨gb505, _, none⟩) NB504_505.out _).trans (((cell_far (p := ⟨gb505, _, none⟩) NB504_505.out _).trans (hHeld.2.2.2.2.2))))))⟩ (fun hHeld => ?_)
 clear hK K
 refine done_ (done_of HT_.out (by kernel_rfl)) ?_
 try go_wp2
 refine bodyPost_ret (results_cell_row rfl _ _ gb505 29 #[.bool t516, .string t517, .string t518] (0, 0) _ rfl (bC BK505) Tryd.underlying29 rfl (by kernel_rfl)) rfl ?_
 exact ⟨zE, zH⟩
end Go.Proofs.YtggfilmdfpmbmaaDoor.QN
end
section
namespace Go.Proofs.YtggfilmdfpmbmaaDoor.QN
open Go.RowKit Go.Proofs.YtggfilmdfpmbmaaDoorW.PrintWords Go.Proofs.YtggfilmdfpmbmaaDoorW.PrintLast Go.Proofs.YtggfilmdfpmbmaaDoorW.PrintMore
attribute [local go_sem] max2_int min2_int max_two min_two max_three min_three max_four min_four   -- for this text's walks alone
set_option linter.unusedVariables false
set_option linter.unusedSimpArgs false
def Q1add.j0 : Nat → ByteArray → ByteArray → ByteArray → Bool → ByteArray → ByteArray → Bool → ByteArray → ByteArray → Option (Bool × ByteArray × ByteArray)
 | 0, _, _, _, _, _, _, _, _, _ => none
 | k + 1, x5, x6, x7, x520000, x520001, x520002, x521000, x521001, x521002 => if (x520000 == x521000) = true then ((N1Add.f k x5 x6).bind fun t530 => ((Q1reduced.f k x520000 t530 x7).bind fun bt531 => (some (bt531.1, bt531.2.1, bt531.2.2)))) else ((N1Subtract.f k x5 x6).bind fun bt534 => (if bt534.2 = true then ((Q1reduced.f k x520000 bt534.1 x7).bind fun bt536 => (some (bt536.1, bt536.2.1, bt536.2.2))) else ((N1Subtract.f k x6 x5).bind fun bt539 => ((Q1reduced.f k x521000 bt539.1 x7).bind fun bt541 => (some (bt541.1, bt541.2.1, bt541.2.2))))))
def Q1add.f (k : Nat) (a0_0 : Bool) (a0_1 : ByteArray) (a0_2 : ByteArray) (a1_0 : Bool) (a1_1 : ByteArray) (a1_2 : ByteArray) : Option (Bool × ByteArray × ByteArray) := if a0_2.toList = a1_2.toList then ((Q1den.f a0_0 a0_1 a0_2).bind fun t522 => (Q1add.j0 k a0_1 a1_1 t522 a0_0 a0_1 a0_2 a1_0 a1_1 a1_2)) else ((Q1den.f a1_0 a1_1 a1_2).bind fun t523 => ((N1Multiply.f k a0_1 t523).bind fun t524 => ((Q1den.f a0_0 a0_1 a0_2).bind fun t525 => ((N1Multiply.f k a1_1 t525).bind fun t526 => ((Q1den.f a0_0 a0_1 a0_2).bind fun t527 => ((Q1den.f a1_0 a1_1 a1_2).bind fun t528 => ((N1Multiply.f k t527 t528).bind fun t529 => (Q1add.j0 k t524 t526 t529 a0_0 a0_1 a0_2 a1_0 a1_1 a1_2))))))))
def Q1add.T3 : Bool × List (List Nat × List Nat) := (true, [([], []), ([], []), ([1], [1]), ([0, 2, 2], [0, 2]), ([], []), ([], []), ([5, 3], [5]), ([4, 6, 6], [4, 6]), ([3, 7, 0, 1, 2, 3], [0, 3]), ([7, 8, 0, 1, 2, 3, 4, 5, 6, 7, 8], [4, 7])])
def Q1add.B3 : List Nat := [0, 0, 2, 7, 0, 0, 47, 127, 255, 511]
theorem Q1add.tab3 : rtab .any (opsOf Tryd.f45 3) = Q1add.T3 := by kernel_rfl
theorem Q1add.bits3 : waitsOk Q1add.T3.2 Q1add.B3 = true := by kernel_rfl
def Q1add.T7 : Bool × List (List Nat × List Nat) := (true, [([], []), ([0], [0]), ([], []), ([], []), ([2, 3], [2, 3]), ([], []), ([1, 4, 5, 4], [1, 4, 5]), ([6, 6, 0, 1, 2, 3, 4, 5, 6], [6])])
def Q1add.B7 : List Nat := [0, 1, 0, 0, 12, 0, 63, 127]
theorem Q1add.tab7 : rtab .any (opsOf Tryd.f45 7) = Q1add.T7 := by kernel_rfl
theorem Q1add.bits7 : waitsOk Q1add.T7.2 Q1add.B7 = true := by kernel_rfl
set_option maxHeartbeats 8000000 in
set_option maxRecDepth 100000 in
theorem Q1add.calls (k : Nat) (a0_0 : Bool) (a0_1 : ByteArray) (a0_2 : ByteArray) (a1_0 : Bool) (a1_1 : ByteArray) (a1_2 : ByteArray) (r1 : Bool) (r2 : ByteArray) (r3 : ByteArray) (w : World) (h : Q1add.f k a0_0 a0_1 a0_2 a1_0 a1_1 a1_2 = some (r1, r2, r3)) :
 Calls Tryd.prog 45 #[.agg #[.bool a0_0, .string a0_1, .string a0_2], .agg #[.bool a1_0, .string a1_1, .string a1_2]] w fun e w' => e = .returned (.agg #[.bool r1, .string r2, .string r3]) ∧ Below w.heap.size w w' := by
 have hu29 := Tryd.underlying29
 have HB := Aside0.mk (Below.refl w.heap.size w)
 have H : (if a0_2.toList = a1_2.toList then ((Q1den.f a0_0 a0_1 a0_2).bind fun t522 => (Q1add.j0 k a0_1 a1_1 t522 a0_0 a0_1 a0_2 a1_0 a1_1 a1_2)) else ((Q1den.f a1_0 a1_1 a1_2).bind fun t523 => ((N1Multiply.f k a0_1 t523).bind fun t524 => ((Q1den.f a0_0 a0_1 a0_2).bind fun t525 => ((N1Multiply.f k a1_1 t525).bind fun t526 => ((Q1den.f a0_0 a0_1 a0_2).bind fun t527 => ((Q1den.f a1_0 a1_1 a1_2).bind fun t528 => ((N1Multiply.f k t527 t528).bind fun t529 => (Q1add.j0 k t524 t526 t529 a0_0 a0_1 a0_2 a1_0 a1_1 a1_2))))))))) = some (r1, r2, r3) := h
 clear h
 have HC3 := Aside0.mk H
 clear H
 go_enter Tryd.func45, Tryd.ntmps45
 try go_wp2_with (first | (refine box_evA 2 #[.bool a0_0, .string a0_1, .string a0_2] 29 ?_; intro gb519 hg w4 hbox hb; obtain ⟨n0_, n1_, n2_, n3_⟩ := bx4 w hbox hb hg; revert n0_ n1_ n2_ n3_; clear HB; intro HB BK519 GW519 GE519; clear hb hbox hg) | (refine box_evA 3 #[.bool a1_0, .string a1_1, .string a1_2] 29 ?_; intro gb520 hg w5 hbox hb; have n0_ := bB BK519 hb; have n1_ := sB hb; have n2_ := Aside0.mk (hbox); have n3_ := wE w hg; have n4_ := wE w hg; have n5_ := Aside0.mk (nL BK519 hg); have n6_ := Aside0.mk (nG BK519 hg); revert n0_ n1_ n2_ n3_ n4_ n5_ n6_; clear BK519 HB; intro BK519 HB BK520 GW520 GE520 NB519_520 NB520_519; clear hb hbox hg) | (refine box_evA 4 #[.bool false, .string (⟨#[]⟩ : ByteArray), .string (⟨#[]⟩ : ByteArray)] 29 ?_; intro gb521 hg w6 hbox hb; have n0_ := bB BK519 hb; have n1_ := bB BK520 hb; have n2_ := sB hb; have n3_ := Aside0.mk (hbox); have n4_ := wE w hg; have n5_ := wE w hg; have n6_ := Aside0.mk (nL BK519 hg); have n7_ := Aside0.mk (nG BK519 hg); have n8_ := Aside0.mk (nL BK520 hg); have n9_ := Aside0.mk (nG BK520 hg); revert n0_ n1_ n2_ n3_ n4_ n5_ n6_ n7_ n8_ n9_; clear BK519 BK520 HB; intro BK519 BK520 HB BK521 GW521 GE521 NB519_521 NB521_519 NB520_521 NB521_520; clear hb hbox hg))
 have n0_ := Aside0.mk (blk_drew BK519.out)
 have n1_ := Aside0.mk (blk_drew BK520.out)
 have n2_ := Aside0.mk (blk_drew BK521.out)
 have n3_ := Aside0.mk (below_drew1 HB.out)
 revert n0_ n1_ n2_ n3_
 clear BK519 BK520 BK521 HB
 intro BK519 BK520 BK521 HB
 refine start_ (n := 7) (S := fun w' => w'.cell? ⟨gb519, 0, none⟩ = some (.bool a0_0) ∧ w'.cell? ⟨gb519, 1, none⟩ = some (.string a0_1) ∧ w'.cell? ⟨gb519, 2, none⟩ = some (.string a0_2) ∧ w'.cell? ⟨gb520, 0, none⟩ = some (.bool a1_0) ∧ w'.cell? ⟨gb520, 1, none⟩ = some (.string a1_1) ∧ w'.cell? ⟨gb520, 2, none⟩ = some (.string a1_2)) (ds := []) #[false, false, false, false, false, false, false] (by kernel_rfl) rfl rfl ⟨cA BK519 0, cA BK519 1, cA BK519 2, cA BK520 0, cA BK520 1, cA BK520 2⟩ (fun hHeld => ?_)
 generalize w6.drew = w7 at BK519 BK520 BK521 HB hHeld ⊢
 refine pureAk 0 12 (lB 7 1) rfl rfl ?_
 refine pureAk 2 14 (lB 7 5) rfl rfl ?_
 refine takeAk 1 13 (lB 7 7) rfl rfl hHeld ?_
 refine pureAk 4 5 (lB 7 23) rfl rfl ?_
 refine takeAk 3 15 (lB 7 31) rfl rfl hHeld ?_
 refine pureAk 5 6 (lB 7 63) rfl rfl ?_
 refine pureAk 6 7 (lB 7 127) rfl rfl ?_
 refine done_ (by kernel_rfl) ?_
 have hnb8 := NB519_520.out
 have hnc8 := NB520_519.out
 have hnb9 := NB519_521.out
 have hnc9 := NB521_519.out
 have hcz10_0 := cB BK519 0 (.bool a0_0)
 have hcz10_1 := cB BK519 1 (.string a0_1)
 have hcz10_2 := cB BK519 2 (.string a0_2)
 have hfz10_0 := fB BK519 0
 have hfz10_1 := fB BK519 1
 have hfz10_2 := fB BK519 2
 have hnb11 := NB520_521.out
 have hnc11 := NB521_520.out
 have hcz12_0 := cB BK520 0 (.bool a1_0)
 have hcz12_1 := cB BK520 1 (.string a1_1)
 have hcz12_2 := cB BK520 2 (.string a1_2)
 have hfz12_0 := fB BK520 0
 have hfz12_1 := fB BK520 1
 have hfz12_2 := fB BK520 2
 go_upto_if 20 with (fail)
 go_cut [5, 6, 7] (fun v5 v6 v7 wc => ∃ (kq : Nat) (x5_2 : ByteArray) (x6_2 : ByteArray) (x7_2 : ByteArray), v5 = .string x5_2 ∧ v6 = .string x6_2 ∧ v7 = .string x7_2 ∧ Aside0 (Q1add.j0 kq x5_2 x6_2 x7_2 a0_0 a0_1 a0_2 a1_0 a1_1 a1_2 = some (r1, r2, r3)) ∧ Aside0 (kq ≤ k) ∧ Aside0 (wc.heap[gb519]? = some (.cells #[.bool a0_0, .string a0_1, .string a0_2] 29 (0, 0))) ∧ Aside0 (wc.heap[gb520]? = some (.cells #[.bool a1_0, .string a1_1, .string a1_2] 29 (0, 0))) ∧ Aside0 (wc.heap[gb521]? = some (.cells #[.bool false, .string (⟨#[]⟩ : ByteArray), .string (⟨#[]⟩ : ByteArray)] 29 (0, 0))) ∧ Aside0 (Below w.heap.size w wc))
 case first =>
  have H := HC3.out
  clear HC3
  by_cases c13 : a0_2.toList = a1_2.toList
  ·rw [if_pos c13] at H
   have c13b0 := beq_iff_eq.mpr c13
   have c13b1 : (a0_2.toList != a1_2.toList) = false := bne_eq_false_iff_eq.mpr c13
   clear c13
   (first | rw [c13b0] | (simp only [i64_w, i32_w]; rw [c13b0]) | rw [c13b1] | skip)
   replace H := bS H
   obtain ⟨t522, A14, H⟩ := H
   have H' := Aside0.mk H
   clear H
   have hnb15 := NB519_520.out
   have hnc15 := NB520_519.out
   have hnb16 := NB519_521.out
   have hnc16 := NB521_519.out
   have hcz17_0 := cB BK519 0 (.bool a0_0)
   have hcz17_1 := cB BK519 1 (.string a0_1)
   have hcz17_2 := cB BK519 2 (.string a0_2)
   have hfz17_0 := fB BK519 0
   have hfz17_1 := fB BK519 1
   have hfz17_2 := fB BK519 2
   go_wp2_with (first | (refine goesLA 35 Tryd.func44 #[.agg #[.bool a0_0, .string a0_1, .string a0_2]] ?_; (with_reducible refine (Q1den.calls a0_0 a0_1 a0_2 t522 _ A14.out).mono ?_); rintro e w18 ⟨rfl, hb⟩; refine ⟨_, rfl, ?_⟩; have n0_ := bB BK519 hb; have n1_ := bB BK520 hb; have n2_ := bB BK521 hb; have n3_ := sB hb; revert n0_ n1_ n2_ n3_; clear BK519 BK520 BK521 HB; intro BK519 BK520 BK521 HB; (try clear hb); (try clear hb2); (try clear hk); (try clear hi)))
   go_meet
   case rel => exact ⟨_, (a0_1), (a1_1), (t522), zq1, zq1, zq1, H', ⟨by first | omega | exact Nat.le_refl _⟩, ⟨bC BK519⟩, ⟨bC BK520⟩, ⟨bC BK521⟩, ⟨zH⟩⟩
  ·rw [if_neg c13] at H
   have c13b0 := beq_eq_false_iff_ne.mpr c13
   have c13b1 := bne_iff_ne.mpr c13
   (first | rw [c13b0] | (simp only [i64_w, i32_w]; rw [c13b0]) | rw [c13b1] | skip)
   replace H := bS H
   obtain ⟨t523, A19, H⟩ := H
   replace H := bS H
   obtain ⟨t524, A20, H⟩ := H
   replace H := bS H
   obtain ⟨t525, A21, H⟩ := H
   replace H := bS H
   obtain ⟨t526, A22, H⟩ := H
   replace H := bS H
   obtain ⟨t527, A23, H⟩ := H
   replace H := bS H
   obtain ⟨t528, A24, H⟩ := H
   replace H := bS H
   obtain ⟨t529, A25, H⟩ := H
   have H' := Aside0.mk H
   clear H
   try go_wp2
   have n0_ := Aside0.mk (blk_drew BK519.out)
   have n1_ := Aside0.mk (blk_drew BK520.out)
   have n2_ := Aside0.mk (blk_drew BK521.out)
   have n3_ := Aside0.mk (below_drew1 HB.out)
   revert n0_ n1_ n2_ n3_
   clear BK519 BK520 BK521 HB
   intro BK519 BK520 BK521 HB
   refine start_ (n := 10) (S := fun w' => w'.cell? ⟨gb520, 0, none⟩ = some (.bool a1_0) ∧ w'.cell? ⟨gb520, 1, none⟩ = some (.string a1_1) ∧ w'.cell? ⟨gb520, 2, none⟩ = some (.string a1_2) ∧ w'.cell? ⟨gb519, 0, none⟩ = some (.bool a0_0) ∧ w'.cell? ⟨gb519, 1, none⟩ = some (.string a0_1) ∧ w'.cell? ⟨gb519, 2, none⟩ = some (.string a0_2)) (ds := []) #[false, false, false, false, false, false, false, false, false, false] (by kernel_rfl) rfl rfl ⟨cA BK520 0, cA BK520 1, cA BK520 2, cA BK519 0, cA BK519 1, cA BK519 2⟩ (fun hHeld => ?_); refine with_tabW Q1add.tab3 Q1add.bits3 (fun HT_ HW_ => ?_)
   generalize w7.drew = w26 at BK519 BK520 BK521 HB hHeld ⊢
   refine pureA 0 21 (lB 10 1) rfl rfl ?_
   refine pureA 4 25 (lB 10 17) rfl rfl ?_
   refine takeA 1 22 (lB 10 19) rfl rfl hHeld ?_
   refine takeA 5 26 (lB 10 51) rfl rfl hHeld ?_
   refine oneA 2 23 (lB 10 55) rfl rfl (fun K hK => ?_)
   refine goes_ Tryd.func44 (by kernel_rfl) rfl #[.agg #[.bool a1_0, .string a1_1, .string a1_2]] (by rfl) rfl rfl zq2 ?_
   with_reducible refine (Q1den.calls a1_0 a1_1 a1_2 t523 _ A19.out).mono ?_
   rintro e w27 ⟨rfl, hb⟩
   refine ⟨_, rfl, ?_⟩
   have n0_ := bB BK519 hb
   have n1_ := bB BK520 hb
   have n2_ := bB BK521 hb
   have n3_ := sB hb
   revert n0_ n1_ n2_ n3_
   clear BK519 BK520 BK521 HB
   intro BK519 BK520 BK521 HB
   (try clear hb); (try clear hb2); (try clear hk); (try clear hi)
   refine hK.out _ _ ⟨cA BK520 0, cA BK520 1, cA BK520 2, cA BK519 0, cA BK519 1, cA BK519 2⟩ (fun hHeld => ?_)
   clear hK K
   refine normA (N := 23) ?_
   refine oneA 3 24 (lB 10 63) rfl rfl (fun K hK => ?_)
   refine goes_ Tryd.func43 (by kernel_rfl) rfl #[.string a0_1, .string t523] (by rfl) rfl rfl zq2 ?_
   with_reducible refine (N1Multiply.calls k a0_1 t523 t524 _ A20.out).mono ?_
   rintro e w28 ⟨rfl, hb⟩
   refine ⟨_, rfl, ?_⟩
   have n0_ := bB BK519 hb
   have n1_ := bB BK520 hb
   have n2_ := bB BK521 hb
   have n3_ := sB hb
   revert n0_ n1_ n2_ n3_
   clear BK519 BK520 BK521 HB
   intro BK519 BK520 BK521 HB
   (try clear hb); (try clear hb2); (try clear hk); (try clear hi)
   refine hK.out _ _ ⟨cA BK520 0, cA BK520 1, cA BK520 2, cA BK519 0, cA BK519 1, cA BK519 2⟩ (fun hHeld => ?_)
   clear hK K
   refine normA (N := 24) ?_
   refine oneA 6 27 (lB 10 127) rfl rfl (fun K hK => ?_)
   refine goes_ Tryd.func44 (by kernel_rfl) rfl #[.agg #[.bool a0_0, .string a0_1, .string a0_2]] (by rfl) rfl rfl zq2 ?_
   with_reducible refine (Q1den.calls a0_0 a0_1 a0_2 t525 _ A21.out).mono ?_
   rintro e w29 ⟨rfl, hb⟩
   refine ⟨_, rfl, ?_⟩
   have n0_ := bB BK519 hb
   have n1_ := bB BK520 hb
   have n2_ := bB BK521 hb
   have n3_ := sB hb
   revert n0_ n1_ n2_ n3_
   clear BK519 BK520 BK521 HB
   intro BK519 BK520 BK521 HB
   (try clear hb); (try clear hb2); (try clear hk); (try clear hi)
   refine hK.out _ _ ⟨cA BK520 0, cA BK520 1, cA BK520 2, cA BK519 0, cA BK519 1, cA BK519 2⟩ (fun hHeld => ?_)
   clear hK K
   refine normA (N := 27) ?_
   refine oneA 7 28 (lB 10 255) rfl rfl (fun K hK => ?_)
   refine goes_ Tryd.func43 (by kernel_rfl) rfl #[.string a1_1, .string t525] (by rfl) rfl rfl zq2 ?_
   with_reducible refine (N1Multiply.calls k a1_1 t525 t526 _ A22.out).mono ?_
   rintro e w30 ⟨rfl, hb⟩
   refine ⟨_, rfl, ?_⟩
   have n0_ := bB BK519 hb
   have n1_ := bB BK520 hb
   have n2_ := bB BK521 hb
   have n3_ := sB hb
   revert n0_ n1_ n2_ n3_
   clear BK519 BK520 BK521 HB
   intro BK519 BK520 BK521 HB
   (try clear hb); (try clear hb2); (try clear hk); (try clear hi)
   refine hK.out _ _ ⟨cA BK520 0, cA BK520 1, cA BK520 2, cA BK519 0, cA BK519 1, cA BK519 2⟩ (fun hHeld => ?_)
   clear hK K
   refine normA (N := 28) ?_
   refine pureA 8 5 (lB 10 511) rfl rfl ?_
   refine pureA 9 6 (lB 10 1023) rfl rfl ?_
   refine done_ (done_of HT_.out (by kernel_rfl)) ?_
   try go_wp2
   have n0_ := Aside0.mk (blk_drew BK519.out)
   have n1_ := Aside0.mk (blk_drew BK520.out)
   have n2_ := Aside0.mk (blk_drew BK521.out)
   have n3_ := Aside0.mk (below_drew1 HB.out)
   revert n0_ n1_ n2_ n3_
   clear BK519 BK520 BK521 HB
   intro BK519 BK520 BK521 HB
   refine start_ (n := 6) (S := fun w' => w'.cell? ⟨gb519, 0, none⟩ = some (.bool a0_0) ∧ w'.cell? ⟨gb519, 1, none⟩ = some (.string a0_1) ∧ w'.cell? ⟨gb519, 2, none⟩ = some (.string a0_2) ∧ w'.cell? ⟨gb520, 0, none⟩ = some (.bool a1_0) ∧ w'.cell? ⟨gb520, 1, none⟩ = some (.string a1_1) ∧ w'.cell? ⟨gb520, 2, none⟩ = some (.string a1_2)) (ds := []) #[false, false, false, false, false, false] (by kernel_rfl) rfl rfl ⟨cA BK519 0, cA BK519 1, cA BK519 2, cA BK520 0, cA BK520 1, cA BK520 2⟩ (fun hHeld => ?_)
   generalize w30.drew = w31 at BK519 BK520 BK521 HB hHeld ⊢
   refine takeAk 0 29 (lB 6 1) rfl rfl hHeld ?_
   refine takeAk 2 31 (lB 6 5) rfl rfl hHeld ?_
   refine oneAk 1 30 (lB 6 7) rfl rfl (fun K hK => ?_)
   refine goes_ Tryd.func44 (by kernel_rfl) rfl #[.agg #[.bool a0_0, .string a0_1, .string a0_2]] (by rfl) rfl rfl zq2 ?_
   with_reducible refine (Q1den.calls a0_0 a0_1 a0_2 t527 _ A23.out).mono ?_
   rintro e w32 ⟨rfl, hb⟩
   refine ⟨_, rfl, ?_⟩
   have n0_ := bB BK519 hb
   have n1_ := bB BK520 hb
   have n2_ := bB BK521 hb
   have n3_ := sB hb
   revert n0_ n1_ n2_ n3_
   clear BK519 BK520 BK521 HB
   intro BK519 BK520 BK521 HB
   (try clear hb); (try clear hb2); (try clear hk); (try clear hi)
   refine hK.out _ _ ⟨cA BK519 0, cA BK519 1, cA BK519 2, cA BK520 0, cA BK520 1, cA BK520 2⟩ (fun hHeld => ?_)
   clear hK K
   refine normA (N := 30) ?_
   refine oneAk 3 32 (lB 6 15) rfl rfl (fun K hK => ?_)
   refine goes_ Tryd.func44 (by kernel_rfl) rfl #[.agg #[.bool a1_0, .string a1_1, .string a1_2]] (by rfl) rfl rfl zq2 ?_
   with_reducible refine (Q1den.calls a1_0 a1_1 a1_2 t528 _ A24.out).mono ?_
   rintro e w33 ⟨rfl, hb⟩
   refine ⟨_, rfl, ?_⟩
   have n0_ := bB BK519 hb
   have n1_ := bB BK520 hb
   have n2_ := bB BK521 hb
   have n3_ := sB hb
   revert n0_ n1_ n2_ n3_
   clear BK519 BK520 BK521 HB
   intro BK519 BK520 BK521 HB
   (try clear hb); (try clear hb2); (try clear hk); (try clear hi)
   refine hK.out _ _ ⟨cA BK519 0, cA BK519 1, cA BK519 2, cA BK520 0, cA BK520 1, cA BK520 2⟩ (fun hHeld => ?_)
   clear hK K
   refine normA (N := 32) ?_
   refine oneAk 4 33 (lB 6 31) rfl rfl (fun K hK => ?_)
   refine goes_ Tryd.func43 (by kernel_rfl) rfl #[.string t527, .string t528] (by rfl) rfl rfl zq2 ?_
   with_reducible refine (N1Multiply.calls k t527 t528 t529 _ A25.out).mono ?_
   rintro e w34 ⟨rfl, hb⟩
   refine ⟨_, rfl, ?_⟩
   have n0_ := bB BK519 hb
   have n1_ := bB BK520 hb
   have n2_ := bB BK521 hb
   have n3_ := sB hb
   revert n0_ n1_ n2_ n3_
   clear BK519 BK520 BK521 HB
   intro BK519 BK520 BK521 HB
   (try clear hb); (try clear hb2); (try clear hk); (try clear hi)
   refine hK.out _ _ ⟨cA BK519 0, cA BK519 1, cA BK519 2, cA BK520 0, cA BK520 1, cA BK520 2⟩ (fun hHeld => ?_)
   clear hK K
   refine normA (N := 33) ?_
   refine pureAk 5 7 (lB 6 63) rfl rfl ?_
   refine done_ (by kernel_rfl) ?_
   try go_wp2
   go_meet
   case rel => exact ⟨_, (t524), (t526), (t529), zq1, zq1, zq1, H', ⟨by first | omega | exact Nat.le_refl _⟩, ⟨bC BK519⟩, ⟨bC BK520⟩, ⟨bC BK521⟩, ⟨zH⟩⟩
 case rest =>
  clear HC3
  obtain ⟨kq, x5_2, x6_2, x7_2, rfl, rfl, rfl, HA, HJ2, BK519, BK520, BK521, HB⟩ := hcut
  cases kq with
  | zero => exact absurd HA.out (by simp [Q1add.j0])
  | succ kj2 =>
   have H := HA.out
   clear HA
   simp only [Q1add.j0] at H
   by_cases c35 : (a0_0 == a1_0) = true
   ·rw [if_pos c35] at H
    have c35b0 : (a0_0 == a1_0) = true := c35
    (try (have c35b1 : decide (a0_0 = a1_0) = true := by simpa using c35))
    (try (have c35b2 : (a0_0 == a1_0) = true := by simpa using c35))
    clear c35
    replace H := bS H
    obtain ⟨t530, A36, H⟩ := H
    replace H := bS H
    obtain ⟨⟨t531, t532, t533⟩, A37, H⟩ := H
    (try dsimp only at H)
    simp only [Option.some.injEq, Prod.mk.injEq] at H
    obtain ⟨rfl, rfl, rfl⟩ := H
    have hnb38 := NB519_520.out
    have hnc38 := NB520_519.out
    have hnb39 := NB519_521.out
    have hnc39 := NB521_519.out
    have hcz40_0 := cB BK519 0 (.bool a0_0)
    have hcz40_1 := cB BK519 1 (.string a0_1)
    have hcz40_2 := cB BK519 2 (.string a0_2)
    have hfz40_0 := fB BK519 0
    have hfz40_1 := fB BK519 1
    have hfz40_2 := fB BK519 2
    have hnb41 := NB520_521.out
    have hnc41 := NB521_520.out
    have hcz42_0 := cB BK520 0 (.bool a1_0)
    have hcz42_1 := cB BK520 1 (.string a1_1)
    have hcz42_2 := cB BK520 2 (.string a1_2)
    have hfz42_0 := fB BK520 0
    have hfz42_1 := fB BK520 1
    have hfz42_2 := fB BK520 2
    try go_wp2
    have n0_ := Aside0.mk (blk_drew BK519.out)
    have n1_ := Aside0.mk (blk_drew BK520.out)
    have n2_ := Aside0.mk (blk_drew BK521.out)
    have n3_ := Aside0.mk (below_drew1 HB.out)
    revert n0_ n1_ n2_ n3_
    clear BK519 BK520 BK521 HB
    intro BK519 BK520 BK521 HB
    refine start_ (n := 8) (S := fun w' => w'.cell? ⟨gb519, 0, none⟩ = some (.bool a0_0) ∧ w'.cell? ⟨gb519, 1, none⟩ = some (.string a0_1) ∧ w'.cell? ⟨gb519, 2, none⟩ = some (.string a0_2)) (ds := []) #[false, false, false, false, false, false, false, false] (by kernel_rfl) rfl rfl ⟨cA BK519 0, cA BK519 1, cA BK519 2⟩ (fun hHeld => ?_); refine with_tabW Q1add.tab7 Q1add.bits7 (fun HT_ HW_ => ?_)
    generalize wc.drew = w43 at BK519 BK520 BK521 HB hHeld ⊢
    refine pureA 0 41 (lB 8 1) rfl rfl ?_
    refine pureA 2 43 (lB 8 5) rfl rfl ?_
    refine pureA 3 44 (lB 8 13) rfl rfl ?_
    refine pureA 5 46 (lB 8 45) rfl rfl ?_
    refine takeA 1 42 (lB 8 47) rfl rfl hHeld ?_
    refine oneA 4 45 (lB 8 63) rfl rfl (fun K hK => ?_)
    refine goes_ Tryd.func68 (by kernel_rfl) rfl #[.string x5_2, .string x6_2] (by rfl) rfl rfl zq2 ?_
    with_reducible refine (N1Add.calls kj2 x5_2 x6_2 t530 _ A36.out).mono ?_
    rintro e w44 ⟨rfl, hb⟩
    refine ⟨_, rfl, ?_⟩
    have n0_ := bB BK519 hb
    have n1_ := bB BK520 hb
    have n2_ := bB BK521 hb
    have n3_ := sB hb
    revert n0_ n1_ n2_ n3_
    clear BK519 BK520 BK521 HB
    intro BK519 BK520 BK521 HB
    (try clear hb); (try clear hb2); (try clear hk); (try clear hi)
    refine hK.out _ _ ⟨cA BK519 0, cA BK519 1, cA BK519 2⟩ (fun hHeld => ?_)
    clear hK K
    refine normA (N := 45) ?_
    refine oneA 6 47 (lB 8 127) rfl rfl (fun K hK => ?_)
    refine goes_ Tryd.func42 (by kernel_rfl) rfl #[.bool a0_0, .string t530, .string x7_2] (by rfl) rfl rfl zq2 ?_
    with_reducible refine (Q1reduced.calls kj2 a0_0 t530 x7_2 t531 t532 t533 _ A37.out).mono ?_
    rintro e w45 ⟨rfl, hb⟩
    refine ⟨_, rfl, ?_⟩
    have n0_ := bB BK519 hb
    have n1_ := bB BK520 hb
    have n2_ := bB BK521 hb
    have n3_ := sB hb
    revert n0_ n1_ n2_ n3_
    clear BK519 BK520 BK521 HB
    intro BK519 BK520 BK521 HB
    (try clear hb); (try clear hb2); (try clear hk); (try clear hi)
    refine hK.out _ _ ⟨cA BK519 0, cA BK519 1, cA BK519 2⟩ (fun hHeld => ?_)
    clear hK K
    refine normA (N := 47) ?_
    refine one_ (i := 7) (N := none) (lB 8 255) rfl rfl (one_of HT_.out (by kernel_rfl)) (by decide) (fun K hK => ?_)
    have hs46 := cB BK521 0 (.bool false)
    have hfs46 := fB BK521 0
    have hns46_0 := NB519_521.out
    have hns46_1 := NB520_521.out
    have hms46_0 := NB521_519.out
    have hms46_1 := NB521_520.out
    have hs47 := cB BK521 1 (.string (⟨#[]⟩ : ByteArray))
    have hfs47 := fB BK521 1
    have hns47_0 := NB519_521.out
    have hns47_1 := NB520_521.out
    have hms47_0 := NB521_519.out
    have hms47_1 := NB521_520.out
    have hs48 := cB BK521 2 (.string (⟨#[]⟩ : ByteArray))
    have hfs48 := fB BK521 2
    have hns48_0 := NB519_521.out
    have hns48_1 := NB520_521.out
    have hms48_0 := NB521_519.out
    have hms48_1 := NB521_520.out
    refine skip_ (w1 := ?_) (by rfl) rfl ?_ ?_
    rotate_left
    ·go_simp
     rfl
    refine hK.out _ _ ⟨((cell_far (p := ⟨gb521, _, none⟩) NB519_521.out _).trans (((cell_far (p := ⟨gb521, _, none⟩) NB519_521.out _).trans (((cell_far (p := ⟨gb521, _, none⟩) NB519_521.out _).trans (hHeld.1)))))), ((cell_far (p := ⟨gb521, _, none⟩) NB519_521.out _).trans (((cell_far (p := ⟨gb521, _, none⟩) NB519_521.out _).trans (((cell_far (p := ⟨gb521, _, none⟩) NB519_521.out _).trans (hHeld.2.1)))))), ((cell_far (p := ⟨gb521, _, none⟩) NB519_521.out _).trans (((cell_far (p := ⟨gb521, _, none⟩) NB519_521.out _).trans (((cell_far (p := ⟨gb521, _, none⟩) NB519_521.out _).trans (hHeld.2.2))))))⟩ (fun hHeld => ?_)
    clear hK K
    refine done_ (done_of HT_.out (by kernel_rfl)) ?_
    try go_wp2
    refine bodyPost_ret (results_cell_row rfl _ _ gb521 29 #[.bool t531, .string t532, .string t533] (0, 0) _ rfl (bC BK521) Tryd.underlying29 rfl (by kernel_rfl)) rfl ?_
    exact ⟨zE, zH⟩
   ·rw [if_neg c35] at H
    have c35b0 : (a0_0 == a1_0) = false := by simpa using c35
    (try (have c35b1 : decide (a0_0 = a1_0) = false := by simpa using c35))
    (try (have c35b2 : (a0_0 == a1_0) = false := by simpa using c35))
    (try (have c35b3 : ¬ (a0_0 = a1_0) := by simpa using c35))
    clear c35
    replace H := bS H
    obtain ⟨⟨t534, t535⟩, A49, H⟩ := H
    (try dsimp only at H)
    by_cases c50 : t535 = true
    ·subst c50
     have H1 : ((Q1reduced.f kj2 a0_0 t534 x7_2).bind fun bt536 => (some (bt536.1, bt536.2.1, bt536.2.2))) = some (r1, r2, r3) := by rw [if_pos rfl] at H; exact H
     clear H
     have H := H1
     clear H1
     replace H := bS H
     obtain ⟨⟨t536, t537, t538⟩, A51, H⟩ := H
     (try dsimp only at H)
     simp only [Option.some.injEq, Prod.mk.injEq] at H
     obtain ⟨rfl, rfl, rfl⟩ := H
     have hnb52 := NB519_520.out
     have hnc52 := NB520_519.out
     have hnb53 := NB519_521.out
     have hnc53 := NB521_519.out
     have hcz54_0 := cB BK519 0 (.bool a0_0)
     have hcz54_1 := cB BK519 1 (.string a0_1)
     have hcz54_2 := cB BK519 2 (.string a0_2)
     have hfz54_0 := fB BK519 0
     have hfz54_1 := fB BK519 1
     have hfz54_2 := fB BK519 2
     have hnb55 := NB520_521.out
     have hnc55 := NB521_520.out
     have hcz56_0 := cB BK520 0 (.bool a1_0)
     have hcz56_1 := cB BK520 1 (.string a1_1)
     have hcz56_2 := cB BK520 2 (.string a1_2)
     have hfz56_0 := fB BK520 0
     have hfz56_1 := fB BK520 1
     have hfz56_2 := fB BK520 2
     go_wp2_with (first | (refine goesLA 51 Tryd.func69 #[.string x5_2, .string x6_2] ?_; (with_reducible refine (N1Subtract.calls kj2 x5_2 x6_2 t534 true _ A49.out).mono ?_); rintro e w57 ⟨rfl, hb⟩; refine ⟨_, rfl, ?_⟩; have n0_ := bB BK519 hb; have n1_ := bB BK520 hb; have n2_ := bB BK521 hb; have n3_ := sB hb; revert n0_ n1_ n2_ n3_; clear BK519 BK520 BK521 HB; intro BK519 BK520 BK521 HB; (try clear hb); (try clear hb2); (try clear hk); (try clear hi); have hcz58_0 := cB BK519 0 (.bool a0_0); have hcz58_1 := cB BK519 1 (.string a0_1); have hcz58_2 := cB BK519 2 (.string a0_2); have hfz58_0 := fB BK519 0; have hfz58_1 := fB BK519 1; have hfz58_2 := fB BK519 2) | (refine goesLA 59 Tryd.func42 #[.bool a0_0, .string t534, .string x7_2] ?_; (with_reducible refine (Q1reduced.calls kj2 a0_0 t534 x7_2 t536 t537 t538 _ A51.out).mono ?_); rintro e w59 ⟨rfl, hb⟩; refine ⟨_, rfl, ?_⟩; have n0_ := bB BK519 hb; have n1_ := bB BK520 hb; have n2_ := bB BK521 hb; have n3_ := sB hb; revert n0_ n1_ n2_ n3_; clear BK519 BK520 BK521 HB; intro BK519 BK520 BK521 HB; (try clear hb); (try clear hb2); (try clear hk); (try clear hi); have hcz60_0 := cB BK521 0 (.bool false); have hcz60_1 := cB BK521 1 (.string (⟨#[]⟩ : ByteArray)); have hcz60_2 := cB BK521 2 (.string (⟨#[]⟩ : ByteArray)); have hfz60_0 := fB BK521 0; have hfz60_1 := fB BK521 1; have hfz60_2 := fB BK521 2))
     refine bodyPost_ret (results_cell_row rfl _ _ gb521 29 #[.bool t536, .string t537, .string t538] (0, 0) _ rfl (bC BK521) Tryd.underlying29 rfl (by kernel_rfl)) rfl ?_
     exact ⟨zE, zH⟩
    ·replace c50 := Bool.eq_false_iff.mpr c50
     subst c50
     have H1 : ((N1Subtract.f kj2 x6_2 x5_2).bind fun bt539 => ((Q1reduced.f kj2 a1_0 bt539.1 x7_2).bind fun bt541 => (some (bt541.1, bt541.2.1, bt541.2.2)))) = some (r1, r2, r3) := by rw [if_neg (show ¬ (false = true) by decide)] at H; exact H
     clear H
     have H := H1
     clear H1
     replace H := bS H
     obtain ⟨⟨t539, t540⟩, A61, H⟩ := H
     (try dsimp only at H)
     replace H := bS H
     obtain ⟨⟨t541, t542, t543⟩, A62, H⟩ := H
     (try dsimp only at H)
     simp only [Option.some.injEq, Prod.mk.injEq] at H
     obtain ⟨rfl, rfl, rfl⟩ := H
     have hnb63 := NB519_520.out
     have hnc63 := NB520_519.out
     have hnb64 := NB519_521.out
     have hnc64 := NB521_519.out
     have hcz65_0 := cB BK519 0 (.bool a0_0)
     have hcz65_1 := cB BK519 1 (.string a0_1)
     have hcz65_2 := cB BK519 2 (.string a0_2)
     have hfz65_0 := fB BK519 0
     have hfz65_1 := fB BK519 1
     have hfz65_2 := fB BK519 2
     have hnb66 := NB520_521.out
     have hnc66 := NB521_520.out
     have hcz67_0 := cB BK520 0 (.bool a1_0)
     have hcz67_1 := cB BK520 1 (.string a1_1)
     have hcz67_2 := cB BK520 2 (.string a1_2)
     have hfz67_0 := fB BK520 0
     have hfz67_1 := fB BK520 1
     have hfz67_2 := fB BK520 2
     go_wp2_with (first | (refine goesLA 51 Tryd.func69 #[.string x5_2, .string x6_2] ?_; (with_reducible refine (N1Subtract.calls kj2 x5_2 x6_2 t534 false _ A49.out).mono ?_); rintro e w68 ⟨rfl, hb⟩; refine ⟨_, rfl, ?_⟩; have n0_ := bB BK519 hb; have n1_ := bB BK520 hb; have n2_ := bB BK521 hb; have n3_ := sB hb; revert n0_ n1_ n2_ n3_; clear BK519 BK520 BK521 HB; intro BK519 BK520 BK521 HB; (try clear hb); (try clear hb2); (try clear hk); (try clear hi)) | (refine goesLA 63 Tryd.func69 #[.string x6_2, .string x5_2] ?_; (with_reducible refine (N1Subtract.calls kj2 x6_2 x5_2 t539 t540 _ A61.out).mono ?_); rintro e w69 ⟨rfl, hb⟩; refine ⟨_, rfl, ?_⟩; have n0_ := bB BK519 hb; have n1_ := bB BK520 hb; have n2_ := bB BK521 hb; have n3_ := sB hb; revert n0_ n1_ n2_ n3_; clear BK519 BK520 BK521 HB; intro BK519 BK520 BK521 HB; (try clear hb); (try clear hb2); (try clear hk); (try clear hi); have hcz70_0 := cB BK520 0 (.bool a1_0); have hcz70_1 := cB BK520 1 (.string a1_1); have hcz70_2 := cB BK520 2 (.string a1_2); have hfz70_0 := fB BK520 0; have hfz70_1 := fB BK520 1; have hfz70_2 := fB BK520 2) | (refine goesLA 70 Tryd.func42 #[.bool a1_0, .string t539, .string x7_2] ?_; (with_reducible refine (Q1reduced.calls kj2 a1_0 t539 x7_2 t541 t542 t543 _ A62.out).mono ?_); rintro e w71 ⟨rfl, hb⟩; refine ⟨_, rfl, ?_⟩; have n0_ := bB BK519 hb; have n1_ := bB BK520 hb; have n2_ := bB BK521 hb; have n3_ := sB hb; revert n0_ n1_ n2_ n3_; clear BK519 BK520 BK521 HB; intro BK519 BK520 BK521 HB; (try clear hb); (try clear hb2); (try clear hk); (try clear hi); have hcz72_0 := cB BK521 0 (.bool false); have hcz72_1 := cB BK521 1 (.string (⟨#[]⟩ : ByteArray)); have hcz72_2 := cB BK521 2 (.string (⟨#[]⟩ : ByteArray)); have hfz72_0 := fB BK521 0; have hfz72_1 := fB BK521 1; have hfz72_2 := fB BK521 2))
     refine bodyPost_ret (results_cell_row rfl _ _ gb521 29 #[.bool t541, .string t542, .string t543] (0, 0) _ rfl (bC BK521) Tryd.underlying29 rfl (by kernel_rfl)) rfl ?_
     exact ⟨zE, zH⟩
def Q1Add.f (k : Nat) (a0_0 : Bool) (a0_1 : ByteArray) (a0_2 : ByteArray) (a1_0 : Bool) (a1_1 : ByteArray) (a1_2 : ByteArray) : Option (Bool × ByteArray × ByteArray) := (Q1clean.f k a0_0 a0_1 a0_2).bind fun bt547 => ((Q1clean.f k a1_0 a1_1 a1_2).bind fun bt550 => ((Q1add.f k bt547.1 bt547.2.1 bt547.2.2 bt550.1 bt550.2.1 bt550.2.2).bind fun bt553 => (some (bt553.1, bt553.2.1, bt553.2.2))))
set_option maxHeartbeats 8000000 in
set_option maxRecDepth 100000 in
theorem Q1Add.calls (k : Nat) (a0_0 : Bool) (a0_1 : ByteArray) (a0_2 : ByteArray) (a1_0 : Bool) (a1_1 : ByteArray) (a1_2 : ByteArray) (r1 : Bool) (r2 : ByteArray) (r3 : ByteArray) (w : World) (h : Q1Add.f k a0_0 a0_1 a0_2 a1_0 a1_1 a1_2 = some (r1, r2, r3)) :
 Calls Tryd.prog 20 #[.agg #[.bool a0_0, .string a0_1, .string a0_2], .agg #[.bool a1_0, .string a1_1, .string a1_2]] w fun e w' => e = .returned (.agg #[.bool r1, .string r2, .string r3]) ∧ Below w.heap.size w w' := by
 have hu29 := Tryd.underlying29
 have HB := Aside0.mk (Below.refl w.heap.size w)
 have H : ((Q1clean.f k a0_0 a0_1 a0_2).bind fun bt547 => ((Q1clean.f k a1_0 a1_1 a1_2).bind fun bt550 => ((Q1add.f k bt547.1 bt547.2.1 bt547.2.2 bt550.1 bt550.2.1 bt550.2.2).bind fun bt553 => (some (bt553.1, bt553.2.1, bt553.2.2))))) = some (r1, r2, r3) := h
 clear h
 replace H := bS H
 obtain ⟨⟨t547, t548, t549⟩, A3, H⟩ := H
 (try dsimp only at H)
 replace H := bS H
 obtain ⟨⟨t550, t551, t552⟩, A4, H⟩ := H
 (try dsimp only at H)
 replace H := bS H
 obtain ⟨⟨t553, t554, t555⟩, A5, H⟩ := H
 (try dsimp only at H)
 simp only [Option.some.injEq, Prod.mk.injEq] at H
 obtain ⟨rfl, rfl, rfl⟩ := H
 go_enter Tryd.func20, Tryd.ntmps20
 try go_wp2_with (first | (refine box_evA 2 #[.bool a0_0, .string a0_1, .string a0_2] 29 ?_; intro gb544 hg w6 hbox hb; obtain ⟨n0_, n1_, n2_, n3_⟩ := bx4 w hbox hb hg; revert n0_ n1_ n2_ n3_; clear HB; intro HB BK544 GW544 GE544; clear hb hbox hg) | (refine box_evA 3 #[.bool a1_0, .string a1_1, .string a1_2] 29 ?_; intro gb545 hg w7 hbox hb; have n0_ := bB BK544 hb; have n1_ := sB hb; have n2_ := Aside0.mk (hbox); have n3_ := wE w hg; have n4_ := wE w hg; have n5_ := Aside0.mk (nL BK544 hg); have n6_ := Aside0.mk (nG BK544 hg); revert n0_ n1_ n2_ n3_ n4_ n5_ n6_; clear BK544 HB; intro BK544 HB BK545 GW545 GE545 NB544_545 NB545_544; clear hb hbox hg) | (refine box_evA 4 #[.bool false, .string (⟨#[]⟩ : ByteArray), .string (⟨#[]⟩ : ByteArray)] 29 ?_; intro gb546 hg w8 hbox hb; have n0_ := bB BK544 hb; have n1_ := bB BK545 hb; have n2_ := sB hb; have n3_ := Aside0.mk (hbox); have n4_ := wE w hg; have n5_ := wE w hg; have n6_ := Aside0.mk (nL BK544 hg); have n7_ := Aside0.mk (nG BK544 hg); have n8_ := Aside0.mk (nL BK545 hg); have n9_ := Aside0.mk (nG BK545 hg); revert n0_ n1_ n2_ n3_ n4_ n5_ n6_ n7_ n8_ n9_; clear BK544 BK545 HB; intro BK544 BK545 HB BK546 GW546 GE546 NB544_546 NB546_544 NB545_546 NB546_545; clear hb hbox hg))
 have n0_ := Aside0.mk (blk_drew BK544.out)
 have n1_ := Aside0.mk (blk_drew BK545.out)
 have n2_ := Aside0.mk (blk_drew BK546.out)
 have n3_ := Aside0.mk (below_drew1 HB.out)
 revert n0_ n1_ n2_ n3_
 clear BK544 BK545 BK546 HB
 intro BK544 BK545 BK546 HB
 refine start_ (n := 6) (S := fun w' => w'.cell? ⟨gb544, 0, none⟩ = some (.bool a0_0) ∧ w'.cell? ⟨gb544, 1, none⟩ = some (.string a0_1) ∧ w'.cell? ⟨gb544, 2, none⟩ = some (.string a0_2) ∧ w'.cell? ⟨gb545, 0, none⟩ = some (.bool a1_0) ∧ w'.cell? ⟨gb545, 1, none⟩ = some (.string a1_1) ∧ w'.cell? ⟨gb545, 2, none⟩ = some (.string a1_2)) (ds := []) #[false, false, false, false, false, false] (by kernel_rfl) rfl rfl ⟨cA BK544 0, cA BK544 1, cA BK544 2, cA BK545 0, cA BK545 1, cA BK545 2⟩ (fun hHeld => ?_)
 generalize w8.drew = w9 at BK544 BK545 BK546 HB hHeld ⊢
 refine takeAk 0 5 (lB 6 1) rfl rfl hHeld ?_
 refine takeAk 2 7 (lB 6 5) rfl rfl hHeld ?_
 refine oneAk 1 6 (lB 6 7) rfl rfl (fun K hK => ?_)
 refine goes_ Tryd.func41 (by kernel_rfl) rfl #[.agg #[.bool a0_0, .string a0_1, .string a0_2]] (by rfl) rfl rfl zq2 ?_
 with_reducible refine (Q1clean.calls k a0_0 a0_1 a0_2 t547 t548 t549 _ A3.out).mono ?_
 rintro e w10 ⟨rfl, hb⟩
 refine ⟨_, rfl, ?_⟩
 have n0_ := bB BK544 hb
 have n1_ := bB BK545 hb
 have n2_ := bB BK546 hb
 have n3_ := sB hb
 revert n0_ n1_ n2_ n3_
 clear BK544 BK545 BK546 HB
 intro BK544 BK545 BK546 HB
 (try clear hb); (try clear hb2); (try clear hk); (try clear hi)
 refine hK.out _ _ ⟨cA BK544 0, cA BK544 1, cA BK544 2, cA BK545 0, cA BK545 1, cA BK545 2⟩ (fun hHeld => ?_)
 clear hK K
 refine normA (N := 6) ?_
 refine oneAk 3 8 (lB 6 15) rfl rfl (fun K hK => ?_)
 refine goes_ Tryd.func41 (by kernel_rfl) rfl #[.agg #[.bool a1_0, .string a1_1, .string a1_2]] (by rfl) rfl rfl zq2 ?_
 with_reducible refine (Q1clean.calls k a1_0 a1_1 a1_2 t550 t551 t552 _ A4.out).mono ?_
 rintro e w11 ⟨rfl, hb⟩
 refine ⟨_, rfl, ?_⟩
 have n0_ := bB BK544 hb
 have n1_ := bB BK545 hb
 have n2_ := bB BK546 hb
 have n3_ := sB hb
 revert n0_ n1_ n2_ n3_
 clear BK544 BK545 BK546 HB
 intro BK544 BK545 BK546 HB
 (try clear hb); (try clear hb2); (try clear hk); (try clear hi)
 refine hK.out _ _ ⟨cA BK544 0, cA BK544 1, cA BK544 2, cA BK545 0, cA BK545 1, cA BK545 2⟩ (fun hHeld => ?_)
 clear hK K
 refine normA (N := 8) ?_
 refine oneAk 4 9 (lB 6 31) rfl rfl (fun K hK => ?_)
 refine goes_ Tryd.func45 (by kernel_rfl) rfl #[.agg #[.bool t547, .string t548, .string t549], .agg #[.bool t550, .string t551, .string t552]] (by rfl) rfl rfl zq2 ?_
 with_reducible refine (Q1add.calls k t547 t548 t549 t550 t551 t552 t553 t554 t555 _ A5.out).mono ?_
 rintro e w12 ⟨rfl, hb⟩
 refine ⟨_, rfl, ?_⟩
 have n0_ := bB BK544 hb
 have n1_ := bB BK545 hb
 have n2_ := bB BK546 hb
 have n3_ := sB hb
 revert n0_ n1_ n2_ n3_
 clear BK544 BK545 BK546 HB
 intro BK544 BK545 BK546 HB
 (try clear hb); (try clear hb2); (try clear hk); (try clear hi)
 refine hK.out _ _ ⟨cA BK544 0, cA BK544 1, cA BK544 2, cA BK545 0, cA BK545 1, cA BK545 2⟩ (fun hHeld => ?_)
 clear hK K
 refine normA (N := 9) ?_
 refine one_ (i := 5) (N := none) (lB 6 63) rfl rfl (by kernel_rfl) (by decide) (fun K hK => ?_)
 have hs13 := cB BK546 0 (.bool false)
 have hfs13 := fB BK546 0
 have hns13_0 := NB544_546.out
 have hns13_1 := NB545_546.out
 have hms13_0 := NB546_544.out
 have hms13_1 := NB546_545.out
 have hs14 := cB BK546 1 (.string (⟨#[]⟩ : ByteArray))
 have hfs14 := fB BK546 1
 have hns14_0 := NB544_546.out
 have hns14_1 := NB545_546.out
 have hms14_0 := NB546_544.out
 have hms14_1 := NB546_545.out
 have hs15 := cB BK546 2 (.string (⟨#[]⟩ : ByteArray))
 have hfs15 := fB BK546 2
 have hns15_0 := NB544_546.out
 have hns15_1 := NB545_546.out
 have hms15_0 := NB546_544.out
 have hms15_1 := NB546_545.out
 refine skip_ (w1 := ?_) (by rfl) rfl ?_ ?_
 rotate_left
 ·go_simp
  rfl
 refine hK.out _ _ ⟨((cell_far (p := ⟨gb546, _, none⟩) NB544_546.out _).trans (((cell_far (p := ⟨gb546, _, none⟩) NB544_546.out _).trans (((cell_far (p := ⟨gb546, _, none⟩) NB544_546.out _).trans (hHeld.1)))))), ((cell_far (p := ⟨gb546, _, none⟩) NB544_546.out _).trans (((cell_far (p := ⟨gb546, _, none⟩) NB544_546.out _).trans (((cell_far (p := ⟨gb546, _, none⟩) NB544_546.out _).trans (hHeld.2.1)))))), ((cell_far (p := ⟨gb546, _, none⟩) NB544_546.out _).trans (((cell_far (p := ⟨gb546, _, none⟩) NB544_546.out _).trans (((cell_far (p := ⟨gb546, _, none⟩) NB544_546.out _).trans (hHeld.2.2.1)))))), ((cell_far (p := ⟨gb546, _, none⟩) NB545_546.out _).trans (((cell_far (p := ⟨gb546, _, none⟩) NB545_546.out _).trans (((cell_far (p := ⟨gb546, _, none⟩) NB545_546.out _).trans (hHeld.2.2.2.1)))))), ((cell_far (p := ⟨gb546, _, none⟩) NB545_546.out _).trans (((cell_far (p := ⟨gb546, _, none⟩) NB545_546.out _).trans (((cell_far (p := ⟨gb546, _, none⟩) NB545_546.out _).trans (hHeld.2.2.2.2.1)))))), ((cell_far (p := ⟨gb546, _, none⟩) NB545_546.out _).trans (((cell_far (p := ⟨gb546, _, none⟩) NB545_546.out _).trans (((cell_far (p := ⟨gb546, _, none⟩) NB545_546.out _).trans (hHeld.2.2.2.2.2))))))⟩ (fun hHeld => ?_)
 clear hK K
 refine done_ (by kernel_rfl) ?_
 try go_wp2
 refine bodyPost_ret (results_cell_row rfl _ _ gb546 29 #[.bool t553, .string t554, .string t555] (0, 0) _ rfl (bC BK546) Tryd.underlying29 rfl (by kernel_rfl)) rfl ?_
 exact ⟨zE, zH⟩
def Q1negate.f (a0_0 : Bool) (a0_1 : ByteArray) (a0_2 : ByteArray) : Option (Bool × ByteArray × ByteArray) := if a0_0 = true then (some (false, a0_1, a0_2)) else (some ((a0_1.toList != ([] : List UInt8)), a0_1, a0_2))
set_option maxHeartbeats 8000000 in
set_option maxRecDepth 100000 in
theorem Q1negate.calls (a0_0 : Bool) (a0_1 : ByteArray) (a0_2 : ByteArray) (r1 : Bool) (r2 : ByteArray) (r3 : ByteArray) (w : World) (h : Q1negate.f a0_0 a0_1 a0_2 = some (r1, r2, r3)) :
 Calls Tryd.prog 70 #[.agg #[.bool a0_0, .string a0_1, .string a0_2]] w fun e w' => e = .returned (.agg #[.bool r1, .string r2, .string r3]) ∧ Below w.heap.size w w' := by
 have hu29 := Tryd.underlying29
 have HB := Aside0.mk (Below.refl w.heap.size w)
 have H : (if a0_0 = true then (some (false, a0_1, a0_2)) else (some ((a0_1.toList != ([] : List UInt8)), a0_1, a0_2))) = some (r1, r2, r3) := h
 clear h
 by_cases c2 : a0_0 = true
 ·subst c2
  have H1 : (some (false, a0_1, a0_2)) = some (r1, r2, r3) := by rw [if_pos rfl] at H; exact H
  clear H
  have H := H1
  clear H1
  simp only [Option.some.injEq, Prod.mk.injEq] at H
  obtain ⟨rfl, rfl, rfl⟩ := H
  go_enter Tryd.func70, Tryd.ntmps70
  go_wp2_with (first | (refine box_evA 1 #[.bool true, .string a0_1, .string a0_2] 29 ?_; intro gb556 hg w3 hbox hb; obtain ⟨n0_, n1_, n2_, n3_⟩ := bx4 w hbox hb hg; revert n0_ n1_ n2_ n3_; clear HB; intro HB BK556 GW556 GE556; clear hb hbox hg) | (refine box_evA 2 #[.bool false, .string (⟨#[]⟩ : ByteArray), .string (⟨#[]⟩ : ByteArray)] 29 ?_; intro gb557 hg w4 hbox hb; have n0_ := bB BK556 hb; have n1_ := sB hb; have n2_ := Aside0.mk (hbox); have n3_ := wE w hg; have n4_ := wE w hg; have n5_ := Aside0.mk (nL BK556 hg); have n6_ := Aside0.mk (nG BK556 hg); revert n0_ n1_ n2_ n3_ n4_ n5_ n6_; clear BK556 HB; intro BK556 HB BK557 GW557 GE557 NB556_557 NB557_556; clear hb hbox hg; have hnb5 := NB556_557.out; have hnc5 := NB557_556.out; have hcz6_0 := cB BK556 0 (.bool true); have hcz6_1 := cB BK556 1 (.string a0_1); have hcz6_2 := cB BK556 2 (.string a0_2); have hfz6_0 := fB BK556 0; have hfz6_1 := fB BK556 1; have hfz6_2 := fB BK556 2; have hcz7_0 := cB BK557 0 (.bool false); have hcz7_1 := cB BK557 1 (.string (⟨#[]⟩ : ByteArray)); have hcz7_2 := cB BK557 2 (.string (⟨#[]⟩ : ByteArray)); have hfz7_0 := fB BK557 0; have hfz7_1 := fB BK557 1; have hfz7_2 := fB BK557 2))
  refine bodyPost_ret (results_cell_row rfl _ _ gb557 29 #[.bool false, .string a0_1, .string a0_2] (0, 0) _ rfl (bC BK557) Tryd.underlying29 rfl (by kernel_rfl)) rfl ?_
  exact ⟨zE, zH⟩
 ·replace c2 := Bool.eq_false_iff.mpr c2
  subst c2
  have H1 : (some ((a0_1.toList != ([] : List UInt8)), a0_1, a0_2)) = some (r1, r2, r3) := by rw [if_neg (show ¬ (false = true) by decide)] at H; exact H
  clear H
  have H := H1
  clear H1
  simp only [Option.some.injEq, Prod.mk.injEq] at H
  obtain ⟨rfl, rfl, rfl⟩ := H
  go_enter Tryd.func70, Tryd.ntmps70
  go_wp2_with (first | (refine box_evA 1 #[.bool false, .string a0_1, .string a0_2] 29 ?_; intro gb556 hg w8 hbox hb; obtain ⟨n0_, n1_, n2_, n3_⟩ := bx4 w hbox hb hg; revert n0_ n1_ n2_ n3_; clear HB; intro HB BK556 GW556 GE556; clear hb hbox hg) | (refine box_evA 2 #[.bool false, .string (⟨#[]⟩ : ByteArray), .string (⟨#[]⟩ : ByteArray)] 29 ?_; intro gb557 hg w9 hbox hb; have n0_ := bB BK556 hb; have n1_ := sB hb; have n2_ := Aside0.mk (hbox); have n3_ := wE w hg; have n4_ := wE w hg; have n5_ := Aside0.mk (nL BK556 hg); have n6_ := Aside0.mk (nG BK556 hg); revert n0_ n1_ n2_ n3_ n4_ n5_ n6_; clear BK556 HB; intro BK556 HB BK557 GW557 GE557 NB556_557 NB557_556; clear hb hbox hg; have hnb10 := NB556_557.out; have hnc10 := NB557_556.out; have hcz11_0 := cB BK556 0 (.bool false); have hcz11_1 := cB BK556 1 (.string a0_1); have hcz11_2 := cB BK556 2 (.string a0_2); have hfz11_0 := fB BK556 0; have hfz11_1 := fB BK556 1; have hfz11_2 := fB BK556 2; have hcz12_0 := cB BK557 0 (.bool false); have hcz12_1 := cB BK557 1 (.string (⟨#[]⟩ : ByteArray)); have hcz12_2 := cB BK557 2 (.string (⟨#[]⟩ : ByteArray)); have hfz12_0 := fB BK557 0; have hfz12_1 := fB BK557 1; have hfz12_2 := fB BK557 2))
  refine bodyPost_ret (results_cell_row rfl _ _ gb557 29 #[.bool (a0_1.toList != ([] : List UInt8)), .string a0_1, .string a0_2] (0, 0) _ rfl (bC BK557) Tryd.underlying29 rfl (by kernel_rfl)) rfl ?_
  exact ⟨zE, zH⟩
end Go.Proofs.YtggfilmdfpmbmaaDoor.QN
end
section
namespace Go.Proofs.YtggfilmdfpmbmaaDoor.QN
open Go.RowKit Go.Proofs.YtggfilmdfpmbmaaDoorW.PrintWords Go.Proofs.YtggfilmdfpmbmaaDoorW.PrintLast Go.Proofs.YtggfilmdfpmbmaaDoorW.PrintMore
attribute [local go_sem] max2_int min2_int max_two min_two max_three min_three max_four min_four   -- for this text's walks alone
set_option linter.unusedVariables false
set_option linter.unusedSimpArgs false
def Q1Subtract.f (k : Nat) (a0_0 : Bool) (a0_1 : ByteArray) (a0_2 : ByteArray) (a1_0 : Bool) (a1_1 : ByteArray) (a1_2 : ByteArray) : Option (Bool × ByteArray × ByteArray) := (Q1clean.f k a0_0 a0_1 a0_2).bind fun bt561 => ((Q1clean.f k a1_0 a1_1 a1_2).bind fun bt564 => ((Q1negate.f bt564.1 bt564.2.1 bt564.2.2).bind fun bt567 => ((Q1add.f k bt561.1 bt561.2.1 bt561.2.2 bt567.1 bt567.2.1 bt567.2.2).bind fun bt570 => (some (bt570.1, bt570.2.1, bt570.2.2)))))
set_option maxHeartbeats 8000000 in
set_option maxRecDepth 100000 in
theorem Q1Subtract.calls (k : Nat) (a0_0 : Bool) (a0_1 : ByteArray) (a0_2 : ByteArray) (a1_0 : Bool) (a1_1 : ByteArray) (a1_2 : ByteArray) (r1 : Bool) (r2 : ByteArray) (r3 : ByteArray) (w : World) (h : Q1Subtract.f k a0_0 a0_1 a0_2 a1_0 a1_1 a1_2 = some (r1, r2, r3)) :
 Calls Tryd.prog 46 #[.agg #[.bool a0_0, .string a0_1, .string a0_2], .agg #[.bool a1_0, .string a1_1, .string a1_2]] w fun e w' => e = .returned (.agg #[.bool r1, .string r2, .string r3]) ∧ Below w.heap.size w w' := by
 have hu29 := Tryd.underlying29
 have HB := Aside0.mk (Below.refl w.heap.size w)
 have H : ((Q1clean.f k a0_0 a0_1 a0_2).bind fun bt561 => ((Q1clean.f k a1_0 a1_1 a1_2).bind fun bt564 => ((Q1negate.f bt564.1 bt564.2.1 bt564.2.2).bind fun bt567 => ((Q1add.f k bt561.1 bt561.2.1 bt561.2.2 bt567.1 bt567.2.1 bt567.2.2).bind fun bt570 => (some (bt570.1, bt570.2.1, bt570.2.2)))))) = some (r1, r2, r3) := h
 clear h
 replace H := bS H
 obtain ⟨⟨t561, t562, t563⟩, A3, H⟩ := H
 (try dsimp only at H)
 replace H := bS H
 obtain ⟨⟨t564, t565, t566⟩, A4, H⟩ := H
 (try dsimp only at H)
 replace H := bS H
 obtain ⟨⟨t567, t568, t569⟩, A5, H⟩ := H
 (try dsimp only at H)
 replace H := bS H
 obtain ⟨⟨t570, t571, t572⟩, A6, H⟩ := H
 (try dsimp only at H)
 simp only [Option.some.injEq, Prod.mk.injEq] at H
 obtain ⟨rfl, rfl, rfl⟩ := H
 go_enter Tryd.func46, Tryd.ntmps46
 try go_wp2_with (first | (refine box_evA 2 #[.bool a0_0, .string a0_1, .string a0_2] 29 ?_; intro gb558 hg w7 hbox hb; obtain ⟨n0_, n1_, n2_, n3_⟩ := bx4 w hbox hb hg; revert n0_ n1_ n2_ n3_; clear HB; intro HB BK558 GW558 GE558; clear hb hbox hg) | (refine box_evA 3 #[.bool a1_0, .string a1_1, .string a1_2] 29 ?_; intro gb559 hg w8 hbox hb; have n0_ := bB BK558 hb; have n1_ := sB hb; have n2_ := Aside0.mk (hbox); have n3_ := wE w hg; have n4_ := wE w hg; have n5_ := Aside0.mk (nL BK558 hg); have n6_ := Aside0.mk (nG BK558 hg); revert n0_ n1_ n2_ n3_ n4_ n5_ n6_; clear BK558 HB; intro BK558 HB BK559 GW559 GE559 NB558_559 NB559_558; clear hb hbox hg) | (refine box_evA 4 #[.bool false, .string (⟨#[]⟩ : ByteArray), .string (⟨#[]⟩ : ByteArray)] 29 ?_; intro gb560 hg w9 hbox hb; have n0_ := bB BK558 hb; have n1_ := bB BK559 hb; have n2_ := sB hb; have n3_ := Aside0.mk (hbox); have n4_ := wE w hg; have n5_ := wE w hg; have n6_ := Aside0.mk (nL BK558 hg); have n7_ := Aside0.mk (nG BK558 hg); have n8_ := Aside0.mk (nL BK559 hg); have n9_ := Aside0.mk (nG BK559 hg); revert n0_ n1_ n2_ n3_ n4_ n5_ n6_ n7_ n8_ n9_; clear BK558 BK559 HB; intro BK558 BK559 HB BK560 GW560 GE560 NB558_560 NB560_558 NB559_560 NB560_559; clear hb hbox hg))
 have n0_ := Aside0.mk (blk_drew BK558.out)
 have n1_ := Aside0.mk (blk_drew BK559.out)
 have n2_ := Aside0.mk (blk_drew BK560.out)
 have n3_ := Aside0.mk (below_drew1 HB.out)
 revert n0_ n1_ n2_ n3_
 clear BK558 BK559 BK560 HB
 intro BK558 BK559 BK560 HB
 refine start_ (n := 7) (S := fun w' => w'.cell? ⟨gb558, 0, none⟩ = some (.bool a0_0) ∧ w'.cell? ⟨gb558, 1, none⟩ = some (.string a0_1) ∧ w'.cell? ⟨gb558, 2, none⟩ = some (.string a0_2) ∧ w'.cell? ⟨gb559, 0, none⟩ = some (.bool a1_0) ∧ w'.cell? ⟨gb559, 1, none⟩ = some (.string a1_1) ∧ w'.cell? ⟨gb559, 2, none⟩ = some (.string a1_2)) (ds := []) #[false, false, false, false, false, false, false] (by kernel_rfl) rfl rfl ⟨cA BK558 0, cA BK558 1, cA BK558 2, cA BK559 0, cA BK559 1, cA BK559 2⟩ (fun hHeld => ?_)
 generalize w9.drew = w10 at BK558 BK559 BK560 HB hHeld ⊢
 refine takeAk 0 5 (lB 7 1) rfl rfl hHeld ?_
 refine takeAk 2 7 (lB 7 5) rfl rfl hHeld ?_
 refine oneAk 1 6 (lB 7 7) rfl rfl (fun K hK => ?_)
 refine goes_ Tryd.func41 (by kernel_rfl) rfl #[.agg #[.bool a0_0, .string a0_1, .string a0_2]] (by rfl) rfl rfl zq2 ?_
 with_reducible refine (Q1clean.calls k a0_0 a0_1 a0_2 t561 t562 t563 _ A3.out).mono ?_
 rintro e w11 ⟨rfl, hb⟩
 refine ⟨_, rfl, ?_⟩
 have n0_ := bB BK558 hb
 have n1_ := bB BK559 hb
 have n2_ := bB BK560 hb
 have n3_ := sB hb
 revert n0_ n1_ n2_ n3_
 clear BK558 BK559 BK560 HB
 intro BK558 BK559 BK560 HB
 (try clear hb); (try clear hb2); (try clear hk); (try clear hi)
 refine hK.out _ _ ⟨cA BK558 0, cA BK558 1, cA BK558 2, cA BK559 0, cA BK559 1, cA BK559 2⟩ (fun hHeld => ?_)
 clear hK K
 refine normA (N := 6) ?_
 refine oneAk 3 8 (lB 7 15) rfl rfl (fun K hK => ?_)
 refine goes_ Tryd.func41 (by kernel_rfl) rfl #[.agg #[.bool a1_0, .string a1_1, .string a1_2]] (by rfl) rfl rfl zq2 ?_
 with_reducible refine (Q1clean.calls k a1_0 a1_1 a1_2 t564 t565 t566 _ A4.out).mono ?_
 rintro e w12 ⟨rfl, hb⟩
 refine ⟨_, rfl, ?_⟩
 have n0_ := bB BK558 hb
 have n1_ := bB BK559 hb
 have n2_ := bB BK560 hb
 have n3_ := sB hb
 revert n0_ n1_ n2_ n3_
 clear BK558 BK559 BK560 HB
 intro BK558 BK559 BK560 HB
 (try clear hb); (try clear hb2); (try clear hk); (try clear hi)
 refine hK.out _ _ ⟨cA BK558 0, cA BK558 1, cA BK558 2, cA BK559 0, cA BK559 1, cA BK559 2⟩ (fun hHeld => ?_)
 clear hK K
 refine normA (N := 8) ?_
 refine oneAk 4 9 (lB 7 31) rfl rfl (fun K hK => ?_)
 refine goes_ Tryd.func70 (by kernel_rfl) rfl #[.agg #[.bool t564, .string t565, .string t566]] (by rfl) rfl rfl zq2 ?_
 with_reducible refine (Q1negate.calls t564 t565 t566 t567 t568 t569 _ A5.out).mono ?_
 rintro e w13 ⟨rfl, hb⟩
 refine ⟨_, rfl, ?_⟩
 have n0_ := bB BK558 hb
 have n1_ := bB BK559 hb
 have n2_ := bB BK560 hb
 have n3_ := sB hb
 revert n0_ n1_ n2_ n3_
 clear BK558 BK559 BK560 HB
 intro BK558 BK559 BK560 HB
 (try clear hb); (try clear hb2); (try clear hk); (try clear hi)
 refine hK.out _ _ ⟨cA BK558 0, cA BK558 1, cA BK558 2, cA BK559 0, cA BK559 1, cA BK559 2⟩ (fun hHeld => ?_)
 clear hK K
 refine normA (N := 9) ?_
 refine oneAk 5 10 (lB 7 63) rfl rfl (fun K hK => ?_)
 refine goes_ Tryd.func45 (by kernel_rfl) rfl #[.agg #[.bool t561, .string t562, .string t563], .agg #[.bool t567, .string t568, .string t569]] (by rfl) rfl rfl zq2 ?_
 with_reducible refine (Q1add.calls k t561 t562 t563 t567 t568 t569 t570 t571 t572 _ A6.out).mono ?_
 rintro e w14 ⟨rfl, hb⟩
 refine ⟨_, rfl, ?_⟩
 have n0_ := bB BK558 hb
 have n1_ := bB BK559 hb
 have n2_ := bB BK560 hb
 have n3_ := sB hb
 revert n0_ n1_ n2_ n3_
 clear BK558 BK559 BK560 HB
 intro BK558 BK559 BK560 HB
 (try clear hb); (try clear hb2); (try clear hk); (try clear hi)
 refine hK.out _ _ ⟨cA BK558 0, cA BK558 1, cA BK558 2, cA BK559 0, cA BK559 1, cA BK559 2⟩ (fun hHeld => ?_)
 clear hK K
 refine normA (N := 10) ?_
 refine one_ (i := 6) (N := none) (lB 7 127) rfl rfl (by kernel_rfl) (by decide) (fun K hK => ?_)
 have hs15 := cB BK560 0 (.bool false)
 have hfs15 := fB BK560 0
 have hns15_0 := NB558_560.out
 have hns15_1 := NB559_560.out
 have hms15_0 := NB560_558.out
 have hms15_1 := NB560_559.out
 have hs16 := cB BK560 1 (.string (⟨#[]⟩ : ByteArray))
 have hfs16 := fB BK560 1
 have hns16_0 := NB558_560.out
 have hns16_1 := NB559_560.out
 have hms16_0 := NB560_558.out
 have hms16_1 := NB560_559.out
 have hs17 := cB BK560 2 (.string (⟨#[]⟩ : ByteArray))
 have hfs17 := fB BK560 2
 have hns17_0 := NB558_560.out
 have hns17_1 := NB559_560.out
 have hms17_0 := NB560_558.out
 have hms17_1 := NB560_559.out
 refine skip_ (w1 := ?_) (by rfl) rfl ?_ ?_
 rotate_left
 ·go_simp
  rfl
 refine hK.out _ _ ⟨((cell_far (p := ⟨gb560, _, none⟩) NB558_560.out _).trans (((cell_far (p := ⟨gb560, _, none⟩) NB558_560.out _).trans (((cell_far (p := ⟨gb560, _, none⟩) NB558_560.out _).trans (hHeld.1)))))), ((cell_far (p := ⟨gb560, _, none⟩) NB558_560.out _).trans (((cell_far (p := ⟨gb560, _, none⟩) NB558_560.out _).trans (((cell_far (p := ⟨gb560, _, none⟩) NB558_560.out _).trans (hHeld.2.1)))))), ((cell_far (p := ⟨gb560, _, none⟩) NB558_560.out _).trans (((cell_far (p := ⟨gb560, _, none⟩) NB558_560.out _).trans (((cell_far (p := ⟨gb560, _, none⟩) NB558_560.out _).trans (hHeld.2.2.1)))))), ((cell_far (p := ⟨gb560, _, none⟩) NB559_560.out _).trans (((cell_far (p := ⟨gb560, _, none⟩) NB559_560.out _).trans (((cell_far (p := ⟨gb560, _, none⟩) NB559_560.out _).trans (hHeld.2.2.2.1)))))), ((cell_far (p := ⟨gb560, _, none⟩) NB559_560.out _).trans (((cell_far (p := ⟨gb560, _, none⟩) NB559_560.out _).trans (((cell_far (p := ⟨gb560, _, none⟩) NB559_560.out _).trans (hHeld.2.2.2.2.1)))))), ((cell_far (p := ⟨gb560, _, none⟩) NB559_560.out _).trans (((cell_far (p := ⟨gb560, _, none⟩) NB559_560.out _).trans (((cell_far (p := ⟨gb560, _, none⟩) NB559_560.out _).trans (hHeld.2.2.2.2.2))))))⟩ (fun hHeld => ?_)
 clear hK K
 refine done_ (by kernel_rfl) ?_
 try go_wp2
 refine bodyPost_ret (results_cell_row rfl _ _ gb560 29 #[.bool t570, .string t571, .string t572] (0, 0) _ rfl (bC BK560) Tryd.underlying29 rfl (by kernel_rfl)) rfl ?_
 exact ⟨zE, zH⟩
def Q1signOf.f (a0_0 : Bool) (a0_1 : ByteArray) (a0_2 : ByteArray) : Option (Int) := if a0_1.toList = ([] : List UInt8) then (some 0) else (if a0_0 = true then (some (-1)) else (some 1))
set_option maxHeartbeats 8000000 in
set_option maxRecDepth 100000 in
theorem Q1signOf.calls (a0_0 : Bool) (a0_1 : ByteArray) (a0_2 : ByteArray) (r : Int) (w : World) (h : Q1signOf.f a0_0 a0_1 a0_2 = some r) :
 Calls Tryd.prog 50 #[.agg #[.bool a0_0, .string a0_1, .string a0_2]] w fun e w' => e = .returned (.int .i64 r) ∧ Below w.heap.size w w' := by
 have hu29 := Tryd.underlying29
 have HB := Aside0.mk (Below.refl w.heap.size w)
 have H : (if a0_1.toList = ([] : List UInt8) then (some 0) else (if a0_0 = true then (some (-1)) else (some 1))) = some r := h
 clear h
 by_cases c2 : a0_1.toList = ([] : List UInt8)
 ·rw [if_pos c2] at H
  have c2b0 := beq_iff_eq.mpr c2
  have c2b1 : (a0_1.toList != ([] : List UInt8)) = false := bne_eq_false_iff_eq.mpr c2
  clear c2
  obtain rfl := Option.some.inj H
  go_enter Tryd.func50, Tryd.ntmps50
  go_wp2_with (first | (refine box_evA 1 #[.bool a0_0, .string a0_1, .string a0_2] 29 ?_; intro gb573 hg w3 hbox hb; obtain ⟨n0_, n1_, n2_, n3_⟩ := bx4 w hbox hb hg; revert n0_ n1_ n2_ n3_; clear HB; intro HB BK573 GW573 GE573; clear hb hbox hg; have hcz4_0 := cB BK573 0 (.bool a0_0); have hcz4_1 := cB BK573 1 (.string a0_1); have hcz4_2 := cB BK573 2 (.string a0_2); have hfz4_0 := fB BK573 0; have hfz4_1 := fB BK573 1; have hfz4_2 := fB BK573 2))
  go_ret
  exact ⟨zE, zH⟩
 ·rw [if_neg c2] at H
  have c2b0 := beq_eq_false_iff_ne.mpr c2
  have c2b1 := bne_iff_ne.mpr c2
  by_cases c5 : a0_0 = true
  ·subst c5
   have H1 : (some (-1)) = some r := by rw [if_pos rfl] at H; exact H
   clear H
   have H := H1
   clear H1
   obtain rfl := Option.some.inj H
   go_enter Tryd.func50, Tryd.ntmps50
   go_wp2_with (first | (refine box_evA 1 #[.bool true, .string a0_1, .string a0_2] 29 ?_; intro gb573 hg w6 hbox hb; obtain ⟨n0_, n1_, n2_, n3_⟩ := bx4 w hbox hb hg; revert n0_ n1_ n2_ n3_; clear HB; intro HB BK573 GW573 GE573; clear hb hbox hg; have hcz7_0 := cB BK573 0 (.bool true); have hcz7_1 := cB BK573 1 (.string a0_1); have hcz7_2 := cB BK573 2 (.string a0_2); have hfz7_0 := fB BK573 0; have hfz7_1 := fB BK573 1; have hfz7_2 := fB BK573 2))
   go_ret
   exact ⟨zE, zH⟩
  ·replace c5 := Bool.eq_false_iff.mpr c5
   subst c5
   have H1 : (some 1) = some r := by rw [if_neg (show ¬ (false = true) by decide)] at H; exact H
   clear H
   have H := H1
   clear H1
   obtain rfl := Option.some.inj H
   go_enter Tryd.func50, Tryd.ntmps50
   go_wp2_with (first | (refine box_evA 1 #[.bool false, .string a0_1, .string a0_2] 29 ?_; intro gb573 hg w8 hbox hb; obtain ⟨n0_, n1_, n2_, n3_⟩ := bx4 w hbox hb hg; revert n0_ n1_ n2_ n3_; clear HB; intro HB BK573 GW573 GE573; clear hb hbox hg; have hcz9_0 := cB BK573 0 (.bool false); have hcz9_1 := cB BK573 1 (.string a0_1); have hcz9_2 := cB BK573 2 (.string a0_2); have hfz9_0 := fB BK573 0; have hfz9_1 := fB BK573 1; have hfz9_2 := fB BK573 2))
   go_ret
   exact ⟨zE, zH⟩
def Q1Sign.f (k : Nat) (a0_0 : Bool) (a0_1 : ByteArray) (a0_2 : ByteArray) : Option (Int) := (Q1clean.f k a0_0 a0_1 a0_2).bind fun bt575 => ((Q1signOf.f bt575.1 bt575.2.1 bt575.2.2).bind fun t578 => (some t578))
set_option maxHeartbeats 8000000 in
set_option maxRecDepth 100000 in
theorem Q1Sign.calls (k : Nat) (a0_0 : Bool) (a0_1 : ByteArray) (a0_2 : ByteArray) (r : Int) (w : World) (h : Q1Sign.f k a0_0 a0_1 a0_2 = some r) :
 Calls Tryd.prog 30 #[.agg #[.bool a0_0, .string a0_1, .string a0_2]] w fun e w' => e = .returned (.int .i64 r) ∧ Below w.heap.size w w' := by
 have hu29 := Tryd.underlying29
 have HB := Aside0.mk (Below.refl w.heap.size w)
 have H : ((Q1clean.f k a0_0 a0_1 a0_2).bind fun bt575 => ((Q1signOf.f bt575.1 bt575.2.1 bt575.2.2).bind fun t578 => (some t578))) = some r := h
 clear h
 replace H := bS H
 obtain ⟨⟨t575, t576, t577⟩, A2, H⟩ := H
 (try dsimp only at H)
 replace H := bS H
 obtain ⟨t578, A3, H⟩ := H
 obtain rfl := Option.some.inj H
 go_enter Tryd.func30, Tryd.ntmps30
 go_wp2_with (first | (refine box_evA 1 #[.bool a0_0, .string a0_1, .string a0_2] 29 ?_; intro gb574 hg w4 hbox hb; obtain ⟨n0_, n1_, n2_, n3_⟩ := bx4 w hbox hb hg; revert n0_ n1_ n2_ n3_; clear HB; intro HB BK574 GW574 GE574; clear hb hbox hg; have hcz5_0 := cB BK574 0 (.bool a0_0); have hcz5_1 := cB BK574 1 (.string a0_1); have hcz5_2 := cB BK574 2 (.string a0_2); have hfz5_0 := fB BK574 0; have hfz5_1 := fB BK574 1; have hfz5_2 := fB BK574 2) | (refine goesLA 4 Tryd.func41 #[.agg #[.bool a0_0, .string a0_1, .string a0_2]] ?_; (with_reducible refine (Q1clean.calls k a0_0 a0_1 a0_2 t575 t576 t577 _ A2.out).mono ?_); rintro e w6 ⟨rfl, hb⟩; refine ⟨_, rfl, ?_⟩; have n0_ := bB BK574 hb; have n1_ := sB hb; revert n0_ n1_; clear BK574 HB; intro BK574 HB; (try clear hb); (try clear hb2); (try clear hk); (try clear hi)) | (refine goesLA 5 Tryd.func50 #[.agg #[.bool t575, .string t576, .string t577]] ?_; (with_reducible refine (Q1signOf.calls t575 t576 t577 t578 _ A3.out).mono ?_); rintro e w7 ⟨rfl, hb⟩; refine ⟨_, rfl, ?_⟩; have n0_ := bB BK574 hb; have n1_ := sB hb; revert n0_ n1_; clear BK574 HB; intro BK574 HB; (try clear hb); (try clear hb2); (try clear hk); (try clear hi)))
 go_ret
 exact ⟨zE, zH⟩
end Go.Proofs.YtggfilmdfpmbmaaDoor.QN
end
