/-
  Steps and laws behind the statement that the claim's last text proves: the words of the walks, the walks of the Go functions (printed by a program of this session's own, then shortened by one), and what they compute. Conditions: stated at each theorem.
-/
import Derived.Test.YtggfilmdfpmbmaaDoorP9
import Derived.Test.YtggfilmdfpmbmaaDoorP5
import Derived.Test.YtggfilmdfpmbmaaDoorP11
import Derived.Test.YtggfilmdfpmbmaaDoorP12
import Derived.Test.YtggfilmdfpmbmaaDoorP0
import Derived.Test.YtggfilmdfpmbmaaDoorP4
section
namespace Go.Proofs.YtggfilmdfpmbmaaDoor.QN
open Go.RowKit Go.Proofs.YtggfilmdfpmbmaaDoorW.PrintWords Go.Proofs.YtggfilmdfpmbmaaDoorW.PrintLast Go.Proofs.YtggfilmdfpmbmaaDoorW.PrintMore
attribute [local go_sem] max2_int min2_int max_two min_two max_three min_three max_four min_four
set_option linter.unusedVariables false
set_option linter.unusedSimpArgs false
attribute [local go_sem high] eqA29
def L6awake.f (k : Nat)  : Option (Bool) := (L0Ratio.f k 1 10).bind fun bt942 => ((some (([(⟨0, (⟨bt942.1, bt942.2.1, bt942.2.2⟩ : S29)⟩ : S54)] : List (S54)) : List (S54))).bind fun y945 => ((L0Whole.f k 36500).bind fun bt948 => ((I1Simple.f k bt948.1 bt948.2.1 bt948.2.2 y945 10 40 365).bind fun bt952 => ((I1Compound.f k bt948.1 bt948.2.1 bt948.2.2 y945 10 40 365 15).bind fun bt957 => (if bt952.2.2.2 = 0 then ((L0Whole.f k 300).bind fun bt962 => (if (bt952.1 == bt962.1 && (bt952.2.1.toList == bt962.2.1.toList && (bt952.2.2.1.toList == bt962.2.2.toList))) = true then (if bt957.2.2.2 = 0 then ((L0Ratio.f k 21945 73).bind fun bt965 => (some (bt957.1 == bt965.1 && (bt957.2.1.toList == bt965.2.1.toList && (bt957.2.2.1.toList == bt965.2.2.toList))))) else (some false)) else (some false))) else (some false))))))
def L6awake.T5 : Bool × List (List Nat × List Nat) := (true, [([], []), ([0], [0]), ([1], [1]), ([2], [2]), ([2, 2], [2]), ([3, 4, 2], [2, 3, 4]), ([2, 5], [2, 5]), ([6, 4], [6]), ([7], [7]), ([8, 7], [7, 8]), ([7, 9], [7, 9]), ([10, 7], [10]), ([11], [11]), ([11, 11], [11]), ([12, 13, 11], [11, 12, 13]), ([11, 14], [11, 14]), ([15, 13, 0, 1, 2, 3, 4, 5, 6, 7, 8, 9, 10, 11, 12, 13, 14, 15], [15])])
def L6awake.B5 : List Nat := [0, 1, 3, 7, 7, 31, 63, 127, 255, 511, 1023, 2047, 4095, 4095, 16383, 32767, 65535]
theorem L6awake.tab5 : rtab .any (opsOf Tryd.f11 5) = L6awake.T5 := by kernel_rfl
theorem L6awake.bits5 : waitsOk L6awake.T5.2 L6awake.B5 = true := by kernel_rfl
set_option maxHeartbeats 8000000 in
set_option maxRecDepth 100000 in
theorem L6awake.calls (k : Nat)  (r : Bool) (w : World) (H : L6awake.f k  = some r) :
 Calls Tryd.prog 11 #[] w fun e w' => e = .returned (.bool r) ∧ Below w.heap.size w w' := by
 have hu1 := Tryd.underlying54
 have hu2 := Tryd.underlying29
 have HB := Aside0.mk (Below.refl w.heap.size w)
 unfold L6awake.f at H
 replace ⟨⟨t1, t2, t3⟩, A1, H⟩ := bS H
 (try dsimp only at H)
 replace ⟨y1, Y1, H⟩ := bY H
 replace ⟨⟨t4, t5, t6⟩, A2, H⟩ := bS H
 (try dsimp only at H)
 replace ⟨⟨t7, t8, t9, t10⟩, A3, H⟩ := bS H
 (try dsimp only at H)
 replace ⟨⟨t11, t12, t13, t14⟩, A4, H⟩ := bS H
 (try dsimp only at H)
 replace H := iQ H
 rcases H with ⟨c1b0, c1b1, H⟩ | ⟨c1b0, c1b1, H⟩
 ·replace ⟨⟨t15, t16, t17⟩, A5, H⟩ := bS H
  (try dsimp only at H)
  by_cases c2 : (t7 == t15 && (t8.toList == t16.toList && (t9.toList == t17.toList))) = true
  ·rw [if_pos c2] at H
   have c2b0 : (t7 == t15 && (t8.toList == t16.toList && (t9.toList == t17.toList))) = true := c2
   (try (have c2b1 : decide (t7 = t15 && (t8.toList == t16.toList && (t9.toList == t17.toList))) = true := by simpa using c2))
   (try (have c2b2 : (t7 == t15 && (t8.toList == t16.toList && (t9.toList == t17.toList))) = true := by simpa using c2))
   clear c2
   replace H := iQ H
   rcases H with ⟨c3b0, c3b1, H⟩ | ⟨c3b0, c3b1, H⟩
   ·replace ⟨⟨t18, t19, t20⟩, A6, H⟩ := bS H
    (try dsimp only at H)
    obtain rfl := sI H
    go_enter Tryd.func11, Tryd.ntmps11
    try go_wp2_with (first | (refine gB 7 Tryd.func27 (L0Ratio.calls _ _ _ _ _ _ _ A1.out) fun w1 hb HB => ?_; clear hb) | ((with_reducible refine gate_dst (N := 9) rfl ?_); refine Kd.R_lit k54 _ 54 ?hg (N := 9) ?hd (xs := ([(⟨0, (⟨t1, t2, t3⟩ : S29)⟩ : S54)] : List (S54))) (inner := [.int .i64 0, .bool t1, .string t2, .string t3]) (ok := fun _ => True) (okp := fun _ => True) ?hr ?hp (fun _ hk => hk) trivial (Below.refl _ _) (Nat.le_refl _) (by simp) ?_; (case hd => rfl); (case hg => rfl); (case hr => first | (go_simp; done) | (go_simp; rfl)); (case hp => exact (Reps.c4 (show Kd.M k54 _ _ _ (⟨0, (⟨t1, t2, t3⟩ : S29)⟩ : S54) [.int .i64 0, .bool t1, .string t2, .string t3] from (k54_mkM _ _ _ (⟨0, (⟨t1, t2, t3⟩ : S29)⟩ : S54) )) (Reps.none _ _))); intro v1 w2 ho12 hb hg_ hnew_; clear hg_ hnew_; (first | rw [← Y1.out] at ho12 | (simp only [Int.reduceToNat] at ho12; rw [← Y1.out] at ho12)); have O1 := Aside0.mk (Kd.R_lower ho12 (below_size zH)); replace HB := sB hb; clear hb ho12) | (refine gB 10 Tryd.func28 (L0Whole.calls _ _ _ _ _ _ A2.out) fun w3 hb HB => ?_; replace O1 := rB O1 hb; clear hb) | (refine bxZ w 2 29 fun g1 w4 B1 G1 hg hb HB => ?_; replace O1 := rB O1 hb; clear hb hg; obtain ⟨_, _, _, _, _, _⟩ := xB3 B1; obtain ⟨P1, d1, u1⟩ := Kd.R_slice O1.out; subst u1) | (refine gB 14 Tryd.func15 (I1Simple.calls _ _ _ _ _ _ _ _ _ _ _ _ _ _ _ ?side1 ?side2 A3.out) fun w5 hb _ => ?_; (case side1 => refine (Kd.R_reads' (e := 54) (base := w.heap.size) (ok := fun k_ => True) (n := y1.length) (c := d1) ?_).2.2; exact zq16); (case side2 => exact (Kd.R_reads' O1.out).2.1); replace O1 := Aside0.mk (Kd.R_below zq16 hb); replace B1 := bV B1 hb; replace HB := sB hb; (try clear hb)) | (refine bxZ w 3 29 fun g2 w6 B2 G2 hg hb HB => ?_; obtain ⟨N1, N2⟩ := nP B1 hg; replace O1 := rB O1 hb; replace B1 := bB B1 hb; clear hb hg; have m1 := N2; have n1 := N1; obtain ⟨_, _, _, _, _, _⟩ := xB3 B2; obtain ⟨_, _, _, _, _, _⟩ := xB3 B1) | (refine gB 20 Tryd.func21 (I1Compound.calls _ _ _ _ _ _ _ _ _ _ _ _ _ _ _ _ ?side1 ?side2 A4.out) fun w7 hb _ => ?_; (case side1 => refine (Kd.R_reads' (e := 54) (base := w.heap.size) (ok := fun k_ => True) (n := y1.length) (c := d1) ?_).2.2; exact zq17); (case side2 => exact (Kd.R_reads' O1.out).2.1); replace O1 := Aside0.mk (Kd.R_below zq17 hb); replace B1 := bV B1 hb; replace B2 := bV B2 hb; replace HB := sB hb; (try clear hb)) | (refine bxZ w 5 29 fun g3 w8 B3 G3 hg hb HB => ?_; obtain ⟨N3, N4⟩ := nP B1 hg; obtain ⟨N5, N6⟩ := nP B2 hg; replace O1 := rB O1 hb; replace B1 := bB B1 hb; replace B2 := bB B2 hb; clear hb hg; have m2 := N4; have n2 := N3; have m3 := N6; have n3 := N5; obtain ⟨_, _, _, _, _, _⟩ := xB3 B3))
    generalize hW_ : (((w8.setCell ⟨g3, 0, none⟩ (.bool t11)).setCell ⟨g3, 1, none⟩ (.string t12)).setCell ⟨g3, 2, none⟩ (.string t13)) = w9
    replace O1 : Aside0 (Kd.R k54 54 w9 w.heap.size (fun _ => True) (.slice P1 y1.length d1) y1) := ⟨zq47⟩
    replace B1 : Aside0 (w9.heap[g1]? = some (.cells #[.bool t4, .string t5, .string t6] 29 (0, 0))) := bG hW_ B1
    replace B2 : Aside0 (w9.heap[g2]? = some (.cells #[.bool t7, .string t8, .string t9] 29 (0, 0))) := bG hW_ B2
    replace B3 : Aside0 (w9.heap[g3]? = some (.cells #[.bool t11, .string t12, .string t13] 29 (0, 0))) := bG hW_ B3
    replace HB := hG hW_
    clear hW_
    replace O1 := rD O1
    replace B1 := bD B1
    replace B2 := bD B2
    replace B3 := bD B3
    replace HB := hD HB
    refine startC2 17 [] B2 B3 (fun hHeld => ?_); refine with_tabW L6awake.tab5 L6awake.bits5 (fun HT_ HW_ => ?_)
    generalize w9.drew = w10 at O1 B1 B2 B3 HB hHeld ⊢
    refine pA 0 1 ?_
    refine pA 1 3 ?_
    refine pA 2 7 ?_
    refine tA 3 15 hHeld ?_
    refine rcB 4 31 Tryd.func28 (L0Whole.calls _ _ _ _ _ _ A5.out) hHeld br fun w11 hb hHeld => ?_
    refine pA 5 63 ?_
    refine pA 6 127 ?_
    refine pA 7 255 ?_
    refine pA 8 511 ?_
    refine pA 9 1023 ?_
    refine pA 10 2047 ?_
    refine pA 11 4095 ?_
    refine tA 12 8191 hHeld ?_
    refine rcB 13 16383 Tryd.func27 (L0Ratio.calls _ _ _ _ _ _ _ A6.out) hHeld hb fun w12 hb hHeld => ?_
    refine pA 14 32767 ?_
    refine pA 15 65535 ?_
    refine pA 16 131071 ?_
    replace O1 := rB O1 hb
    replace B1 := bB B1 hb
    replace B2 := bB B2 hb
    replace B3 := bB B3 hb
    replace HB := sB hb
    clear hb
    refine done_ (done_of HT_.out (by kernel_rfl)) ?_
    try go_wp2
    go_ret
    exact ⟨zE, zH⟩
   ·obtain rfl := sI H
    go_enter Tryd.func11, Tryd.ntmps11
    try go_wp2_with (first | (refine gB 7 Tryd.func27 (L0Ratio.calls _ _ _ _ _ _ _ A1.out) fun w1 hb HB => ?_; clear hb) | ((with_reducible refine gate_dst (N := 9) rfl ?_); refine Kd.R_lit k54 _ 54 ?hg (N := 9) ?hd (xs := ([(⟨0, (⟨t1, t2, t3⟩ : S29)⟩ : S54)] : List (S54))) (inner := [.int .i64 0, .bool t1, .string t2, .string t3]) (ok := fun _ => True) (okp := fun _ => True) ?hr ?hp (fun _ hk => hk) trivial (Below.refl _ _) (Nat.le_refl _) (by simp) ?_; (case hd => rfl); (case hg => rfl); (case hr => first | (go_simp; done) | (go_simp; rfl)); (case hp => exact (Reps.c4 (show Kd.M k54 _ _ _ (⟨0, (⟨t1, t2, t3⟩ : S29)⟩ : S54) [.int .i64 0, .bool t1, .string t2, .string t3] from (k54_mkM _ _ _ (⟨0, (⟨t1, t2, t3⟩ : S29)⟩ : S54) )) (Reps.none _ _))); intro v1 w2 ho33 hb hg_ hnew_; clear hg_ hnew_; (first | rw [← Y1.out] at ho33 | (simp only [Int.reduceToNat] at ho33; rw [← Y1.out] at ho33)); have O1 := Aside0.mk (Kd.R_lower ho33 (below_size zH)); replace HB := sB hb; clear hb ho33) | (refine gB 10 Tryd.func28 (L0Whole.calls _ _ _ _ _ _ A2.out) fun w3 hb HB => ?_; replace O1 := rB O1 hb; clear hb) | (refine bxZ w 2 29 fun g1 w4 B1 G1 hg hb HB => ?_; replace O1 := rB O1 hb; clear hb hg; obtain ⟨_, _, _, _, _, _⟩ := xB3 B1; obtain ⟨P1, d1, u1⟩ := Kd.R_slice O1.out; subst u1) | (refine gB 14 Tryd.func15 (I1Simple.calls _ _ _ _ _ _ _ _ _ _ _ _ _ _ _ ?side1 ?side2 A3.out) fun w5 hb _ => ?_; (case side1 => refine (Kd.R_reads' (e := 54) (base := w.heap.size) (ok := fun k_ => True) (n := y1.length) (c := d1) ?_).2.2; exact zq16); (case side2 => exact (Kd.R_reads' O1.out).2.1); replace O1 := Aside0.mk (Kd.R_below zq16 hb); replace B1 := bV B1 hb; replace HB := sB hb; (try clear hb)) | (refine bxZ w 3 29 fun g2 w6 B2 G2 hg hb HB => ?_; obtain ⟨N1, N2⟩ := nP B1 hg; replace O1 := rB O1 hb; replace B1 := bB B1 hb; clear hb hg; have m1 := N2; have n1 := N1; obtain ⟨_, _, _, _, _, _⟩ := xB3 B2; obtain ⟨_, _, _, _, _, _⟩ := xB3 B1) | (refine gB 20 Tryd.func21 (I1Compound.calls _ _ _ _ _ _ _ _ _ _ _ _ _ _ _ _ ?side1 ?side2 A4.out) fun w7 hb _ => ?_; (case side1 => refine (Kd.R_reads' (e := 54) (base := w.heap.size) (ok := fun k_ => True) (n := y1.length) (c := d1) ?_).2.2; exact zq17); (case side2 => exact (Kd.R_reads' O1.out).2.1); replace O1 := Aside0.mk (Kd.R_below zq17 hb); replace B1 := bV B1 hb; replace B2 := bV B2 hb; replace HB := sB hb; (try clear hb)) | (refine bxZ w 5 29 fun g3 w8 B3 G3 hg hb HB => ?_; obtain ⟨N3, N4⟩ := nP B1 hg; obtain ⟨N5, N6⟩ := nP B2 hg; replace O1 := rB O1 hb; replace B1 := bB B1 hb; replace B2 := bB B2 hb; clear hb hg; have m2 := N4; have n2 := N3; have m3 := N6; have n3 := N5; obtain ⟨_, _, _, _, _, _⟩ := xB3 B3))
    generalize hW_ : (((w8.setCell ⟨g3, 0, none⟩ (.bool t11)).setCell ⟨g3, 1, none⟩ (.string t12)).setCell ⟨g3, 2, none⟩ (.string t13)) = w9
    replace O1 : Aside0 (Kd.R k54 54 w9 w.heap.size (fun _ => True) (.slice P1 y1.length d1) y1) := ⟨zq47⟩
    replace B1 : Aside0 (w9.heap[g1]? = some (.cells #[.bool t4, .string t5, .string t6] 29 (0, 0))) := bG hW_ B1
    replace B2 : Aside0 (w9.heap[g2]? = some (.cells #[.bool t7, .string t8, .string t9] 29 (0, 0))) := bG hW_ B2
    replace B3 : Aside0 (w9.heap[g3]? = some (.cells #[.bool t11, .string t12, .string t13] 29 (0, 0))) := bG hW_ B3
    replace HB := hG hW_
    clear hW_
    replace O1 := rD O1
    replace B1 := bD B1
    replace B2 := bD B2
    replace B3 := bD B3
    replace HB := hD HB
    refine startC1 17 [] B2 (fun hHeld => ?_); refine with_tabW L6awake.tab5 L6awake.bits5 (fun HT_ HW_ => ?_)
    generalize w9.drew = w10 at O1 B1 B2 B3 HB hHeld ⊢
    refine pA 0 1 ?_
    refine pA 1 3 ?_
    refine pA 2 7 ?_
    refine tA 3 15 hHeld ?_
    refine rcB 4 31 Tryd.func28 (L0Whole.calls _ _ _ _ _ _ A5.out) hHeld br fun w11 hb hHeld => ?_
    refine pA 5 63 ?_
    refine pA 6 127 ?_
    refine pA 7 255 ?_
    refine pA 8 511 ?_
    refine pA 9 1023 ?_
    refine pA 10 2047 ?_
    refine pA 11 4095 ?_
    refine uA 12 8191 ?_
    refine uA 13 16383 ?_
    refine uA 14 32767 ?_
    refine pA 15 65535 ?_
    refine pA 16 131071 ?_
    replace O1 := rB O1 hb
    replace B1 := bB B1 hb
    replace B2 := bB B2 hb
    replace B3 := bB B3 hb
    replace HB := sB hb
    clear hb
    refine done_ (done_of HT_.out (by kernel_rfl)) ?_
    try go_wp2
    go_ret
    exact ⟨zE, zH⟩
  ·rw [if_neg c2] at H
   have c2b0 : (t7 == t15 && (t8.toList == t16.toList && (t9.toList == t17.toList))) = false := by simpa using c2
   (try (have c2b1 : decide (t7 = t15 && (t8.toList == t16.toList && (t9.toList == t17.toList))) = false := by simpa using c2))
   (try (have c2b2 : (t7 == t15 && (t8.toList == t16.toList && (t9.toList == t17.toList))) = false := by simpa using c2))
   (try (have c2b3 : ¬ (t7 = t15 && (t8.toList == t16.toList && (t9.toList == t17.toList))) := by simpa using c2))
   clear c2
   obtain rfl := sI H
   go_enter Tryd.func11, Tryd.ntmps11
   try go_wp2_with (first | (refine gB 7 Tryd.func27 (L0Ratio.calls _ _ _ _ _ _ _ A1.out) fun w1 hb HB => ?_; clear hb) | ((with_reducible refine gate_dst (N := 9) rfl ?_); refine Kd.R_lit k54 _ 54 ?hg (N := 9) ?hd (xs := ([(⟨0, (⟨t1, t2, t3⟩ : S29)⟩ : S54)] : List (S54))) (inner := [.int .i64 0, .bool t1, .string t2, .string t3]) (ok := fun _ => True) (okp := fun _ => True) ?hr ?hp (fun _ hk => hk) trivial (Below.refl _ _) (Nat.le_refl _) (by simp) ?_; (case hd => rfl); (case hg => rfl); (case hr => first | (go_simp; done) | (go_simp; rfl)); (case hp => exact (Reps.c4 (show Kd.M k54 _ _ _ (⟨0, (⟨t1, t2, t3⟩ : S29)⟩ : S54) [.int .i64 0, .bool t1, .string t2, .string t3] from (k54_mkM _ _ _ (⟨0, (⟨t1, t2, t3⟩ : S29)⟩ : S54) )) (Reps.none _ _))); intro v1 w2 ho53 hb hg_ hnew_; clear hg_ hnew_; (first | rw [← Y1.out] at ho53 | (simp only [Int.reduceToNat] at ho53; rw [← Y1.out] at ho53)); have O1 := Aside0.mk (Kd.R_lower ho53 (below_size zH)); replace HB := sB hb; clear hb ho53) | (refine gB 10 Tryd.func28 (L0Whole.calls _ _ _ _ _ _ A2.out) fun w3 hb HB => ?_; replace O1 := rB O1 hb; clear hb) | (refine bxZ w 2 29 fun g1 w4 B1 G1 hg hb HB => ?_; replace O1 := rB O1 hb; clear hb hg; obtain ⟨_, _, _, _, _, _⟩ := xB3 B1; obtain ⟨P1, d1, u1⟩ := Kd.R_slice O1.out; subst u1) | (refine gB 14 Tryd.func15 (I1Simple.calls _ _ _ _ _ _ _ _ _ _ _ _ _ _ _ ?side1 ?side2 A3.out) fun w5 hb _ => ?_; (case side1 => refine (Kd.R_reads' (e := 54) (base := w.heap.size) (ok := fun k_ => True) (n := y1.length) (c := d1) ?_).2.2; exact zq16); (case side2 => exact (Kd.R_reads' O1.out).2.1); replace O1 := Aside0.mk (Kd.R_below zq16 hb); replace B1 := bV B1 hb; replace HB := sB hb; (try clear hb)) | (refine bxZ w 3 29 fun g2 w6 B2 G2 hg hb HB => ?_; obtain ⟨N1, N2⟩ := nP B1 hg; replace O1 := rB O1 hb; replace B1 := bB B1 hb; clear hb hg; have m1 := N2; have n1 := N1; obtain ⟨_, _, _, _, _, _⟩ := xB3 B2; obtain ⟨_, _, _, _, _, _⟩ := xB3 B1) | (refine gB 20 Tryd.func21 (I1Compound.calls _ _ _ _ _ _ _ _ _ _ _ _ _ _ _ _ ?side1 ?side2 A4.out) fun w7 hb _ => ?_; (case side1 => refine (Kd.R_reads' (e := 54) (base := w.heap.size) (ok := fun k_ => True) (n := y1.length) (c := d1) ?_).2.2; exact zq17); (case side2 => exact (Kd.R_reads' O1.out).2.1); replace O1 := Aside0.mk (Kd.R_below zq17 hb); replace B1 := bV B1 hb; replace B2 := bV B2 hb; replace HB := sB hb; (try clear hb)) | (refine bxZ w 5 29 fun g3 w8 B3 G3 hg hb HB => ?_; obtain ⟨N3, N4⟩ := nP B1 hg; obtain ⟨N5, N6⟩ := nP B2 hg; replace O1 := rB O1 hb; replace B1 := bB B1 hb; replace B2 := bB B2 hb; clear hb hg; have m2 := N4; have n2 := N3; have m3 := N6; have n3 := N5; obtain ⟨_, _, _, _, _, _⟩ := xB3 B3))
   generalize hW_ : (((w8.setCell ⟨g3, 0, none⟩ (.bool t11)).setCell ⟨g3, 1, none⟩ (.string t12)).setCell ⟨g3, 2, none⟩ (.string t13)) = w9
   replace O1 : Aside0 (Kd.R k54 54 w9 w.heap.size (fun _ => True) (.slice P1 y1.length d1) y1) := ⟨zq47⟩
   replace B1 : Aside0 (w9.heap[g1]? = some (.cells #[.bool t4, .string t5, .string t6] 29 (0, 0))) := bG hW_ B1
   replace B2 : Aside0 (w9.heap[g2]? = some (.cells #[.bool t7, .string t8, .string t9] 29 (0, 0))) := bG hW_ B2
   replace B3 : Aside0 (w9.heap[g3]? = some (.cells #[.bool t11, .string t12, .string t13] 29 (0, 0))) := bG hW_ B3
   replace HB := hG hW_
   clear hW_
   replace O1 := rD O1
   replace B1 := bD B1
   replace B2 := bD B2
   replace B3 := bD B3
   replace HB := hD HB
   refine startC1 17 [] B2 (fun hHeld => ?_); refine with_tabW L6awake.tab5 L6awake.bits5 (fun HT_ HW_ => ?_)
   generalize w9.drew = w10 at O1 B1 B2 B3 HB hHeld ⊢
   refine pA 0 1 ?_
   refine pA 1 3 ?_
   refine pA 2 7 ?_
   refine tA 3 15 hHeld ?_
   refine rcB 4 31 Tryd.func28 (L0Whole.calls _ _ _ _ _ _ A5.out) hHeld br fun w11 hb hHeld => ?_
   refine pA 5 63 ?_
   refine pA 6 127 ?_
   refine pA 7 255 ?_
   refine uA 8 511 ?_
   refine uA 9 1023 ?_
   refine pA 10 2047 ?_
   refine pA 11 4095 ?_
   refine uA 12 8191 ?_
   refine uA 13 16383 ?_
   refine uA 14 32767 ?_
   refine pA 15 65535 ?_
   refine pA 16 131071 ?_
   replace O1 := rB O1 hb
   replace B1 := bB B1 hb
   replace B2 := bB B2 hb
   replace B3 := bB B3 hb
   replace HB := sB hb
   clear hb
   refine done_ (done_of HT_.out (by kernel_rfl)) ?_
   try go_wp2
   go_ret
   exact ⟨zE, zH⟩
 ·obtain rfl := sI H
  go_enter Tryd.func11, Tryd.ntmps11
  try go_wp2_with (first | (refine gB 7 Tryd.func27 (L0Ratio.calls _ _ _ _ _ _ _ A1.out) fun w1 hb HB => ?_; clear hb) | ((with_reducible refine gate_dst (N := 9) rfl ?_); refine Kd.R_lit k54 _ 54 ?hg (N := 9) ?hd (xs := ([(⟨0, (⟨t1, t2, t3⟩ : S29)⟩ : S54)] : List (S54))) (inner := [.int .i64 0, .bool t1, .string t2, .string t3]) (ok := fun _ => True) (okp := fun _ => True) ?hr ?hp (fun _ hk => hk) trivial (Below.refl _ _) (Nat.le_refl _) (by simp) ?_; (case hd => rfl); (case hg => rfl); (case hr => first | (go_simp; done) | (go_simp; rfl)); (case hp => exact (Reps.c4 (show Kd.M k54 _ _ _ (⟨0, (⟨t1, t2, t3⟩ : S29)⟩ : S54) [.int .i64 0, .bool t1, .string t2, .string t3] from (k54_mkM _ _ _ (⟨0, (⟨t1, t2, t3⟩ : S29)⟩ : S54) )) (Reps.none _ _))); intro v1 w2 ho73 hb hg_ hnew_; clear hg_ hnew_; (first | rw [← Y1.out] at ho73 | (simp only [Int.reduceToNat] at ho73; rw [← Y1.out] at ho73)); have O1 := Aside0.mk (Kd.R_lower ho73 (below_size zH)); replace HB := sB hb; clear hb ho73) | (refine gB 10 Tryd.func28 (L0Whole.calls _ _ _ _ _ _ A2.out) fun w3 hb HB => ?_; replace O1 := rB O1 hb; clear hb) | (refine bxZ w 2 29 fun g1 w4 B1 G1 hg hb HB => ?_; replace O1 := rB O1 hb; clear hb hg; obtain ⟨_, _, _, _, _, _⟩ := xB3 B1; obtain ⟨P1, d1, u1⟩ := Kd.R_slice O1.out; subst u1) | (refine gB 14 Tryd.func15 (I1Simple.calls _ _ _ _ _ _ _ _ _ _ _ _ _ _ _ ?side1 ?side2 A3.out) fun w5 hb _ => ?_; (case side1 => refine (Kd.R_reads' (e := 54) (base := w.heap.size) (ok := fun k_ => True) (n := y1.length) (c := d1) ?_).2.2; exact zq16); (case side2 => exact (Kd.R_reads' O1.out).2.1); replace O1 := Aside0.mk (Kd.R_below zq16 hb); replace B1 := bV B1 hb; replace HB := sB hb; (try clear hb)) | (refine bxZ w 3 29 fun g2 w6 B2 G2 hg hb HB => ?_; obtain ⟨N1, N2⟩ := nP B1 hg; replace O1 := rB O1 hb; replace B1 := bB B1 hb; clear hb hg; have m1 := N2; have n1 := N1; obtain ⟨_, _, _, _, _, _⟩ := xB3 B2; obtain ⟨_, _, _, _, _, _⟩ := xB3 B1) | (refine gB 20 Tryd.func21 (I1Compound.calls _ _ _ _ _ _ _ _ _ _ _ _ _ _ _ _ ?side1 ?side2 A4.out) fun w7 hb _ => ?_; (case side1 => refine (Kd.R_reads' (e := 54) (base := w.heap.size) (ok := fun k_ => True) (n := y1.length) (c := d1) ?_).2.2; exact zq17); (case side2 => exact (Kd.R_reads' O1.out).2.1); replace O1 := Aside0.mk (Kd.R_below zq17 hb); replace B1 := bV B1 hb; replace B2 := bV B2 hb; replace HB := sB hb; (try clear hb)) | (refine bxZ w 5 29 fun g3 w8 B3 G3 hg hb HB => ?_; obtain ⟨N3, N4⟩ := nP B1 hg; obtain ⟨N5, N6⟩ := nP B2 hg; replace O1 := rB O1 hb; replace B1 := bB B1 hb; replace B2 := bB B2 hb; clear hb hg; have m2 := N4; have n2 := N3; have m3 := N6; have n3 := N5; obtain ⟨_, _, _, _, _, _⟩ := xB3 B3))
  generalize hW_ : (((w8.setCell ⟨g3, 0, none⟩ (.bool t11)).setCell ⟨g3, 1, none⟩ (.string t12)).setCell ⟨g3, 2, none⟩ (.string t13)) = w9
  replace O1 : Aside0 (Kd.R k54 54 w9 w.heap.size (fun _ => True) (.slice P1 y1.length d1) y1) := ⟨zq47⟩
  replace B1 : Aside0 (w9.heap[g1]? = some (.cells #[.bool t4, .string t5, .string t6] 29 (0, 0))) := bG hW_ B1
  replace B2 : Aside0 (w9.heap[g2]? = some (.cells #[.bool t7, .string t8, .string t9] 29 (0, 0))) := bG hW_ B2
  replace B3 : Aside0 (w9.heap[g3]? = some (.cells #[.bool t11, .string t12, .string t13] 29 (0, 0))) := bG hW_ B3
  replace HB := hG hW_
  clear hW_
  replace O1 := rD O1
  replace B1 := bD B1
  replace B2 := bD B2
  replace B3 := bD B3
  replace HB := hD HB
  refine startA 17 (S := fun w' => True) (ds := []) trivial (fun hHeld => ?_); refine with_tabW L6awake.tab5 L6awake.bits5 (fun HT_ HW_ => ?_)
  generalize w9.drew = w10 at O1 B1 B2 B3 HB hHeld ⊢
  refine pA 0 1 ?_
  refine pA 1 3 ?_
  refine pA 2 7 ?_
  refine uA 3 15 ?_
  refine uA 4 31 ?_
  refine uA 5 63 ?_
  refine pA 6 127 ?_
  refine pA 7 255 ?_
  refine uA 8 511 ?_
  refine uA 9 1023 ?_
  refine pA 10 2047 ?_
  refine pA 11 4095 ?_
  refine uA 12 8191 ?_
  refine uA 13 16383 ?_
  refine uA 14 32767 ?_
  refine pA 15 65535 ?_
  refine pA 16 131071 ?_
  refine done_ (done_of HT_.out (by kernel_rfl)) ?_
  try go_wp2
  go_ret
  exact ⟨zE, zH⟩
def L6InterestChain.f (k : Nat) (a0 : Int) (l1 : List (S64)) (a2 a3 a4 a5 : Int) : Option (Bool) := (L0Steps.f k l1).bind fun t1029 => ((L0Amount.f k a0).bind fun bt1032 => ((I1Compound.f k bt1032.1 bt1032.2.1 bt1032.2.2 t1029 (wrap64 (a2)) (wrap64 ((wrap64 (a2)) + (wrap64 ((wrap64 (1 + (wrap64 (Int.tmod a4 20)))) * (wrap64 (Int.tmod a3 6)))))) 365 (wrap64 (1 + (wrap64 (Int.tmod a4 20))))).bind fun bt1036 => ((Q1Add.f k bt1032.1 bt1032.2.1 bt1032.2.2 bt1036.1 bt1036.2.1 bt1036.2.2.1).bind fun bt1041 => ((I1Compound.f k bt1041.1 bt1041.2.1 bt1041.2.2 t1029 (wrap64 ((wrap64 (a2)) + (wrap64 ((wrap64 (1 + (wrap64 (Int.tmod a4 20)))) * (wrap64 (Int.tmod a3 6)))))) (wrap64 ((wrap64 ((wrap64 (a2)) + (wrap64 ((wrap64 (1 + (wrap64 (Int.tmod a4 20)))) * (wrap64 (Int.tmod a3 6)))))) + (wrap64 (Int.tmod a5 40)))) 365 (wrap64 (1 + (wrap64 (Int.tmod a4 20))))).bind fun bt1044 => ((I1Compound.f k bt1032.1 bt1032.2.1 bt1032.2.2 t1029 (wrap64 (a2)) (wrap64 ((wrap64 ((wrap64 (a2)) + (wrap64 ((wrap64 (1 + (wrap64 (Int.tmod a4 20)))) * (wrap64 (Int.tmod a3 6)))))) + (wrap64 (Int.tmod a5 40)))) 365 (wrap64 (1 + (wrap64 (Int.tmod a4 20))))).bind fun bt1049 => ((L6awake.f k).bind fun t1054 => (if t1054 = true then (if bt1036.2.2.2 = 0 then (if bt1044.2.2.2 = 0 then (if bt1049.2.2.2 = 0 then ((Q1Add.f k bt1036.1 bt1036.2.1 bt1036.2.2.1 bt1044.1 bt1044.2.1 bt1044.2.2.1).bind fun bt1055 => (some (bt1055.1 == bt1049.1 && (bt1055.2.1.toList == bt1049.2.1.toList && (bt1055.2.2.toList == bt1049.2.2.1.toList))))) else (some false)) else (some false)) else (some false)) else (some false))))))))
def L6InterestChain.T10 : Bool × List (List Nat × List Nat) := (true, [([], []), ([0, 0], [0]), ([1], [1]), ([2, 1], [1, 2]), ([1, 3], [1, 3]), ([4, 1], [4]), ([5], [5]), ([6, 5], [5, 6]), ([5, 7], [5, 7]), ([8, 5], [8]), ([9], [9]), ([10, 9], [9, 10]), ([9, 11], [9, 11]), ([12, 9], [12]), ([13], [13]), ([13], [13]), ([14, 15, 13, 13], [13, 14, 15]), ([13], [13]), ([16, 17, 13], [13, 16, 17]), ([13, 18], [13, 18]), ([19, 16, 0, 1, 2, 3, 4, 5, 6, 7, 8, 9, 10, 11, 12, 13, 14, 15, 16, 17, 18, 19], [19])])
def L6InterestChain.B10 : List Nat := [0, 1, 3, 7, 15, 31, 63, 127, 255, 511, 1023, 2047, 4095, 8191, 16383, 16383, 65535, 16383, 262143, 524287, 1048575]
theorem L6InterestChain.tab10 : rtab .any (opsOf Tryd.f6 10) = L6InterestChain.T10 := by kernel_rfl
theorem L6InterestChain.bits10 : waitsOk L6InterestChain.T10.2 L6InterestChain.B10 = true := by kernel_rfl
set_option maxHeartbeats 8000000 in
set_option maxRecDepth 100000 in
theorem L6InterestChain.calls (k : Nat) (a0 : Int) (A1 : Option Addr) (c1 : Nat) (l1 : List (S64)) (a2 a3 a4 a5 : Int) (r : Bool) (w : World) (hr1 : Kd.C k64 w A1 l1.length l1) (hc1 : l1.length ≤ c1) (H : L6InterestChain.f k a0 l1 a2 a3 a4 a5 = some r) :
 Calls Tryd.prog 6 #[.int .u16 a0, .slice A1 l1.length c1, .int .u8 a2, .int .u8 a3, .int .u8 a4, .int .u8 a5] w fun e w' => e = .returned (.bool r) ∧ Below w.heap.size w w' := by
 have hu1 := Tryd.underlying29
 have HR1 := Aside0.mk hr1
 have HC1 := Aside0.mk hc1
 clear hr1 hc1
 have HB := Aside0.mk (Below.refl w.heap.size w)
 unfold L6InterestChain.f at H
 replace ⟨t1, A2, H⟩ := bS H
 replace ⟨⟨t2, t3, t4⟩, A3, H⟩ := bS H
 (try dsimp only at H)
 replace ⟨⟨t5, t6, t7, t8⟩, A4, H⟩ := bS H
 (try dsimp only at H)
 replace ⟨⟨t9, t10, t11⟩, A5, H⟩ := bS H
 (try dsimp only at H)
 replace ⟨⟨t12, t13, t14, t15⟩, A6, H⟩ := bS H
 (try dsimp only at H)
 replace ⟨⟨t16, t17, t18, t19⟩, A7, H⟩ := bS H
 (try dsimp only at H)
 replace ⟨t20, A8, H⟩ := bS H
 by_cases c2 : t20 = true
 subst c2
 rw [if_pos rfl] at H
 replace H := iQ H
 rcases H with ⟨c3b0, c3b1, H⟩ | ⟨c3b0, c3b1, H⟩
 replace H := iQ H
 rcases H with ⟨c4b0, c4b1, H⟩ | ⟨c4b0, c4b1, H⟩
 replace H := iQ H
 rcases H with ⟨c5b0, c5b1, H⟩ | ⟨c5b0, c5b1, H⟩
 replace ⟨⟨t21, t22, t23⟩, A9, H⟩ := bS H
 (try dsimp only at H)
 obtain rfl := sI H
 rotate_left
 obtain rfl := sI H
 rotate_left
 obtain rfl := sI H
 rotate_left
 obtain rfl := sI H
 rotate_left
 replace c2 := Bool.eq_false_iff.mpr c2
 subst c2
 rw [if_neg (show ¬ (false = true) by decide)] at H
 obtain rfl := sI H
 rotate_left
 all_goals
  go_enter Tryd.func6, Tryd.ntmps6
  try go_wp2_with (first | (refine gR 26 Tryd.func17 (L0Steps.calls k _ _ l1 t1 _ ?side1 ?side2 A2.out) fun v1 w1 ho0 hb => ?_; (case side1 => exact sC HR1.out); (case side2 => exact HC1.out); have O1 := Aside0.mk (Kd.R_lower ho0 (below_size zH)); replace HB := sB hb; (try clear hb); (try clear ho0)) | (refine gB 28 Tryd.func18 (L0Amount.calls _ _ _ _ _ _ A3.out) fun w2 hb HB => ?_; replace O1 := rB O1 hb; clear hb) | (refine bxZ w 14 29 fun g1 w3 B1 G1 hg hb HB => ?_; replace O1 := rB O1 hb; clear hb hg; obtain ⟨_, _, _, _, _, _⟩ := xB3 B1; obtain ⟨P1, d1, u1⟩ := Kd.R_slice O1.out; subst u1) | (refine gB 53 Tryd.func21 (I1Compound.calls _ _ _ _ _ _ _ _ _ _ _ _ _ _ _ _ ?side1 ?side2 A4.out) fun w4 hb _ => ?_; (case side1 => refine (Kd.R_reads' (e := 54) (base := w.heap.size) (ok := fun k_ => True) (n := t1.length) (c := d1) ?_).2.2; exact zq19); (case side2 => exact (Kd.R_reads' O1.out).2.1); replace O1 := Aside0.mk (Kd.R_below zq19 hb); replace B1 := bV B1 hb; replace HB := sB hb; (try clear hb)) | (refine bxZ w 19 29 fun g2 w5 B2 G2 hg hb HB => ?_; obtain ⟨N1, N2⟩ := nP B1 hg; replace O1 := rB O1 hb; replace B1 := bB B1 hb; clear hb hg; have m1 := N2; have n1 := N1; obtain ⟨_, _, _, _, _, _⟩ := xB3 B2; obtain ⟨_, _, _, _, _, _⟩ := xB3 B1) | (refine gB 59 Tryd.func20 (Q1Add.calls _ _ _ _ _ _ _ _ _ _ _ A5.out) fun w6 hb _ => ?_; replace O1 := Aside0.mk (Kd.R_below zq32 hb); replace B1 := bV B1 hb; replace B2 := bV B2 hb; replace HB := sB hb; (try clear hb)) | (refine gB 64 Tryd.func21 (I1Compound.calls _ _ _ _ _ _ _ _ _ _ _ _ _ _ _ _ ?side1 ?side2 A6.out) fun w7 hb HB => ?_; (case side1 => exact sC (Kd.R_reads' O1.out).2.2); (case side2 => exact (Kd.R_reads' O1.out).2.1); replace O1 := rB O1 hb; replace B1 := bB B1 hb; replace B2 := bB B2 hb; clear hb) | (refine bxZ w 21 29 fun g3 w8 B3 G3 hg hb HB => ?_; obtain ⟨N3, N4⟩ := nP B1 hg; obtain ⟨N5, N6⟩ := nP B2 hg; replace O1 := rB O1 hb; replace B1 := bB B1 hb; replace B2 := bB B2 hb; clear hb hg; have m2 := N4; have n2 := N3; have m3 := N6; have n3 := N5; obtain ⟨_, _, _, _, _, _⟩ := xB3 B3; obtain ⟨_, _, _, _, _, _⟩ := xB3 B1) | (refine gB 73 Tryd.func21 (I1Compound.calls _ _ _ _ _ _ _ _ _ _ _ _ _ _ _ _ ?side1 ?side2 A7.out) fun w9 hb _ => ?_; (case side1 => refine (Kd.R_reads' (e := 54) (base := w.heap.size) (ok := fun k_ => True) (n := t1.length) (c := d1) ?_).2.2; exact zq63); (case side2 => exact (Kd.R_reads' O1.out).2.1); replace O1 := Aside0.mk (Kd.R_below zq63 hb); replace B1 := bV B1 hb; replace B2 := bV B2 hb; replace B3 := bV B3 hb; replace HB := sB hb; (try clear hb)) | (refine bxZ w 23 29 fun g4 w10 B4 G4 hg hb HB => ?_; obtain ⟨N7, N8⟩ := nP B1 hg; obtain ⟨N9, N10⟩ := nP B2 hg; obtain ⟨N11, N12⟩ := nP B3 hg; replace O1 := rB O1 hb; replace B1 := bB B1 hb; replace B2 := bB B2 hb; replace B3 := bB B3 hb; clear hb hg; have m4 := N8; have n4 := N7; have m5 := N10; have n5 := N9; have m6 := N12; have n6 := N11; obtain ⟨_, _, _, _, _, _⟩ := xB3 B4))
  generalize hW_ : (((w10.setCell ⟨g4, 0, none⟩ (.bool t16)).setCell ⟨g4, 1, none⟩ (.string t17)).setCell ⟨g4, 2, none⟩ (.string t18)) = w11
  replace O1 : Aside0 (Kd.R k54 54 w11 w.heap.size (fun _ => True) (.slice P1 t1.length d1) t1) := ⟨by subst hW_; (with_reducible repeat (first | apply Kd.R_alloc | apply Kd.R_drewN | apply Kd.R_drew)); exact Kd.R_mono (Kd.R_far (p := ⟨g4, 2, none⟩) (Kd.R_far (p := ⟨g4, 1, none⟩) (Kd.R_far (p := ⟨g4, 0, none⟩) (Kd.R_types O1.out B4.out (by decide)) (fun _ hk => hk.2) (.bool t16)) (fun _ hk => hk.2) (.string t17)) (fun _ hk => hk.2) (.string t18)) (fun _ hk => trivial)⟩
  replace B1 : Aside0 (w11.heap[g1]? = some (.cells #[.bool t2, .string t3, .string t4] 29 (0, 0))) := bG hW_ B1
  replace B2 : Aside0 (w11.heap[g2]? = some (.cells #[.bool t5, .string t6, .string t7] 29 (0, 0))) := bG hW_ B2
  replace B3 : Aside0 (w11.heap[g3]? = some (.cells #[.bool t12, .string t13, .string t14] 29 (0, 0))) := bG hW_ B3
  replace B4 : Aside0 (w11.heap[g4]? = some (.cells #[.bool t16, .string t17, .string t18] 29 (0, 0))) := bG hW_ B4
  replace HB := hG hW_
  clear hW_
  replace O1 := rD O1
  replace B1 := bD B1
  replace B2 := bD B2
  replace B3 := bD B3
  replace B4 := bD B4
  replace HB := hD HB
 ·refine startC3 21 [] B2 B3 B4 (fun hHeld => ?_); refine with_tabW L6InterestChain.tab10 L6InterestChain.bits10 (fun HT_ HW_ => ?_)
  generalize w11.drew = w12 at O1 B1 B2 B3 B4 HB hHeld ⊢
  refine rcB 0 1 Tryd.func11 (L6awake.calls k  true _ A8.out) hHeld br fun w13 hb hHeld => ?_
  refine pA 1 3 ?_
  refine pA 2 7 ?_
  refine pA 3 15 ?_
  refine pA 4 31 ?_
  refine pA 5 63 ?_
  refine pA 6 127 ?_
  refine pA 7 255 ?_
  refine pA 8 511 ?_
  refine pA 9 1023 ?_
  refine pA 10 2047 ?_
  refine pA 11 4095 ?_
  refine pA 12 8191 ?_
  refine pA 13 16383 ?_
  refine tA 14 32767 hHeld ?_
  refine tA 15 65535 hHeld ?_
  refine tA 17 196607 hHeld ?_
  refine rcB 16 262143 Tryd.func20 (Q1Add.calls _ _ _ _ _ _ _ _ _ _ _ A9.out) hHeld hb fun w14 hb hHeld => ?_
  refine pA 18 524287 ?_
  refine pA 19 1048575 ?_
  refine pA 20 2097151 ?_
  replace O1 := rB O1 hb
  replace B1 := bB B1 hb
  replace B2 := bB B2 hb
  replace B3 := bB B3 hb
  replace B4 := bB B4 hb
  replace HB := sB hb
  clear hb
  refine done_ (done_of HT_.out (by kernel_rfl)) ?_
  try go_wp2
  go_ret
  exact ⟨zE, zH⟩
 ·refine startA 21 (S := fun w' => True) (ds := []) trivial (fun hHeld => ?_); refine with_tabW L6InterestChain.tab10 L6InterestChain.bits10 (fun HT_ HW_ => ?_)
  generalize w11.drew = w12 at O1 B1 B2 B3 B4 HB hHeld ⊢
  refine rcB 0 1 Tryd.func11 (L6awake.calls k  true _ A8.out) hHeld br fun w13 hb hHeld => ?_
  refine pA 1 3 ?_
  refine pA 2 7 ?_
  refine pA 3 15 ?_
  refine pA 4 31 ?_
  refine pA 5 63 ?_
  refine pA 6 127 ?_
  refine pA 7 255 ?_
  refine pA 8 511 ?_
  refine pA 9 1023 ?_
  refine pA 10 2047 ?_
  refine pA 11 4095 ?_
  refine pA 12 8191 ?_
  refine pA 13 16383 ?_
  refine uA 14 32767 ?_
  refine uA 15 65535 ?_
  refine uA 16 131071 ?_
  refine uA 17 262143 ?_
  refine uA 18 524287 ?_
  refine pA 19 1048575 ?_
  refine pA 20 2097151 ?_
  replace O1 := rB O1 hb
  replace B1 := bB B1 hb
  replace B2 := bB B2 hb
  replace B3 := bB B3 hb
  replace B4 := bB B4 hb
  replace HB := sB hb
  clear hb
  refine done_ (done_of HT_.out (by kernel_rfl)) ?_
  try go_wp2
  go_ret
  exact ⟨zE, zH⟩
 ·refine startA 21 (S := fun w' => True) (ds := []) trivial (fun hHeld => ?_); refine with_tabW L6InterestChain.tab10 L6InterestChain.bits10 (fun HT_ HW_ => ?_)
  generalize w11.drew = w12 at O1 B1 B2 B3 B4 HB hHeld ⊢
  refine rcB 0 1 Tryd.func11 (L6awake.calls k  true _ A8.out) hHeld br fun w13 hb hHeld => ?_
  refine pA 1 3 ?_
  refine pA 2 7 ?_
  refine pA 3 15 ?_
  refine pA 4 31 ?_
  refine pA 5 63 ?_
  refine pA 6 127 ?_
  refine pA 7 255 ?_
  refine pA 8 511 ?_
  refine pA 9 1023 ?_
  refine uA 10 2047 ?_
  refine uA 11 4095 ?_
  refine pA 12 8191 ?_
  refine pA 13 16383 ?_
  refine uA 14 32767 ?_
  refine uA 15 65535 ?_
  refine uA 16 131071 ?_
  refine uA 17 262143 ?_
  refine uA 18 524287 ?_
  refine pA 19 1048575 ?_
  refine pA 20 2097151 ?_
  replace O1 := rB O1 hb
  replace B1 := bB B1 hb
  replace B2 := bB B2 hb
  replace B3 := bB B3 hb
  replace B4 := bB B4 hb
  replace HB := sB hb
  clear hb
  refine done_ (done_of HT_.out (by kernel_rfl)) ?_
  try go_wp2
  go_ret
  exact ⟨zE, zH⟩
 ·refine startA 21 (S := fun w' => True) (ds := []) trivial (fun hHeld => ?_); refine with_tabW L6InterestChain.tab10 L6InterestChain.bits10 (fun HT_ HW_ => ?_)
  generalize w11.drew = w12 at O1 B1 B2 B3 B4 HB hHeld ⊢
  refine rcB 0 1 Tryd.func11 (L6awake.calls k  true _ A8.out) hHeld br fun w13 hb hHeld => ?_
  refine pA 1 3 ?_
  refine pA 2 7 ?_
  refine pA 3 15 ?_
  refine pA 4 31 ?_
  refine pA 5 63 ?_
  refine uA 6 127 ?_
  refine uA 7 255 ?_
  refine pA 8 511 ?_
  refine pA 9 1023 ?_
  refine uA 10 2047 ?_
  refine uA 11 4095 ?_
  refine pA 12 8191 ?_
  refine pA 13 16383 ?_
  refine uA 14 32767 ?_
  refine uA 15 65535 ?_
  refine uA 16 131071 ?_
  refine uA 17 262143 ?_
  refine uA 18 524287 ?_
  refine pA 19 1048575 ?_
  refine pA 20 2097151 ?_
  replace O1 := rB O1 hb
  replace B1 := bB B1 hb
  replace B2 := bB B2 hb
  replace B3 := bB B3 hb
  replace B4 := bB B4 hb
  replace HB := sB hb
  clear hb
  refine done_ (done_of HT_.out (by kernel_rfl)) ?_
  try go_wp2
  go_ret
  exact ⟨zE, zH⟩
 ·refine startA 21 (S := fun w' => True) (ds := []) trivial (fun hHeld => ?_); refine with_tabW L6InterestChain.tab10 L6InterestChain.bits10 (fun HT_ HW_ => ?_)
  generalize w11.drew = w12 at O1 B1 B2 B3 B4 HB hHeld ⊢
  refine rcB 0 1 Tryd.func11 (L6awake.calls _ _ _ A8.out) hHeld br fun w13 hb hHeld => ?_
  refine pA 1 3 ?_
  refine uA 2 7 ?_
  refine uA 3 15 ?_
  refine pA 4 31 ?_
  refine pA 5 63 ?_
  refine uA 6 127 ?_
  refine uA 7 255 ?_
  refine pA 8 511 ?_
  refine pA 9 1023 ?_
  refine uA 10 2047 ?_
  refine uA 11 4095 ?_
  refine pA 12 8191 ?_
  refine pA 13 16383 ?_
  refine uA 14 32767 ?_
  refine uA 15 65535 ?_
  refine uA 16 131071 ?_
  refine uA 17 262143 ?_
  refine uA 18 524287 ?_
  refine pA 19 1048575 ?_
  refine pA 20 2097151 ?_
  replace O1 := rB O1 hb
  replace B1 := bB B1 hb
  replace B2 := bB B2 hb
  replace B3 := bB B3 hb
  replace B4 := bB B4 hb
  replace HB := sB hb
  clear hb
  refine done_ (done_of HT_.out (by kernel_rfl)) ?_
  try go_wp2
  go_ret
  exact ⟨zE, zH⟩
def L6InterestSums.l0 : Nat → Int → Int → List (S54) → Int → Bool → ByteArray → ByteArray → Bool → ByteArray → ByteArray → Option (Bool)
 | 0, _, _, _, _, _, _, _, _, _, _ => none
 | k + 1, x2, x3, x9, x12, x1078000, x1078001, x1078002, x1082000, x1082001, x1082002 => if x12 < (wrap64 ((wrap64 (x2)) + (wrap64 (Int.tmod x3 60)))) then ((I1Rate.f k x9 x12).bind fun bt1082 => (if bt1082.2.2.2 = 0 then ((Q1Add.f k x1082000 x1082001 x1082002 bt1082.1 bt1082.2.1 bt1082.2.2.1).bind fun bt1087 => (L6InterestSums.l0 k x2 x3 x9 (wrap64 (x12 + 1)) x1078000 x1078001 x1078002 bt1087.1 bt1087.2.1 bt1087.2.2)) else (some false))) else ((Q1Multiply.f k x1078000 x1078001 x1078002 x1082000 x1082001 x1082002).bind fun bt1090 => ((Q1Int.f k 360).bind fun bt1093 => ((Q1Divide.f k bt1090.1 bt1090.2.1 bt1090.2.2 bt1093.1 bt1093.2.1 bt1093.2.2).bind fun bt1096 => ((I1Simple.f k x1078000 x1078001 x1078002 x9 (wrap64 (x2)) (wrap64 ((wrap64 (x2)) + (wrap64 (Int.tmod x3 60)))) 360).bind fun bt1101 => ((L6awake.f k).bind fun t1106 => (if t1106 = true then (if bt1101.2.2.2 = 0 then (some (bt1101.1 == bt1096.1 && (bt1101.2.1.toList == bt1096.2.1.toList && (bt1101.2.2.1.toList == bt1096.2.2.1.toList)))) else (some false)) else (some false)))))))
def L6InterestSums.f (k : Nat) (a0 : Int) (l1 : List (S64)) (a2 a3 : Int) : Option (Bool) := (L0Steps.f k l1).bind fun t1071 => ((L0Amount.f k a0).bind fun bt1074 => ((Q1Int.f k 0).bind fun bt1078 => (L6InterestSums.l0 k a2 a3 t1071 (wrap64 (a2)) bt1074.1 bt1074.2.1 bt1074.2.2 bt1078.1 bt1078.2.1 bt1078.2.2)))
set_option maxHeartbeats 8000000 in
set_option maxRecDepth 100000 in
theorem L6InterestSums.calls (k : Nat) (a0 : Int) (A1 : Option Addr) (c1 : Nat) (l1 : List (S64)) (a2 a3 : Int) (r : Bool) (w : World) (hr1 : Kd.C k64 w A1 l1.length l1) (hc1 : l1.length ≤ c1) (H : L6InterestSums.f k a0 l1 a2 a3 = some r) :
 Calls Tryd.prog 8 #[.int .u16 a0, .slice A1 l1.length c1, .int .u8 a2, .int .u8 a3] w fun e w' => e = .returned (.bool r) ∧ Below w.heap.size w w' := by
 have hu1 := Tryd.underlying29
 have HR1 := Aside0.mk hr1
 have HC1 := Aside0.mk hc1
 clear hr1 hc1
 have HB := Aside0.mk (Below.refl w.heap.size w)
 unfold L6InterestSums.f at H
 replace ⟨t1, A2, H⟩ := bS H
 replace ⟨⟨t2, t3, t4⟩, A3, H⟩ := bS H
 (try dsimp only at H)
 replace ⟨⟨t5, t6, t7⟩, A4, H⟩ := bS H
 (try dsimp only at H)
 have H' := Aside0.mk H
 clear H
 go_enter Tryd.func8, Tryd.ntmps8
 go_wp2_with (first | (refine gR 20 Tryd.func17 (L0Steps.calls k _ _ l1 t1 _ ?side1 ?side2 A2.out) fun v1 w1 ho0 hb => ?_; (case side1 => exact sC HR1.out); (case side2 => exact HC1.out); have O1 := Aside0.mk (Kd.R_lower ho0 (below_size zH)); replace HB := sB hb; (try clear hb); (try clear ho0)) | (refine gB 22 Tryd.func18 (L0Amount.calls _ _ _ _ _ _ A3.out) fun w2 hb HB => ?_; replace O1 := rB O1 hb; clear hb) | (refine bxZ w 10 29 fun g1 w3 B1 G1 hg hb HB => ?_; replace O1 := rB O1 hb; clear hb hg; obtain ⟨_, _, _, _, _, _⟩ := xB3 B1) | (refine gB 23 Tryd.func24 (Q1Int.calls _ _ _ _ _ _ A4.out) fun w4 hb _ => ?_; replace O1 := Aside0.mk (Kd.R_below zq19 hb); replace B1 := bV B1 hb; replace HB := sB hb; (try clear hb)) | (refine bxZ w 11 29 fun g2 w5 B2 G2 hg hb HB => ?_; obtain ⟨N1, N2⟩ := nP B1 hg; replace O1 := rB O1 hb; replace B1 := bB B1 hb; clear hb hg; have m1 := N2; have n1 := N1; obtain ⟨_, _, _, _, _, _⟩ := xB3 B2))
 go_loopg [12] k (fun kq v2 w' => ∃ (x1 : Int) (x2 : Bool) (x3 : ByteArray) (x4 : ByteArray), v2 = .int .i64 x1 ∧ Aside0 (L6InterestSums.l0 kq a2 a3 t1 x1 t2 t3 t4 x2 x3 x4 = some r) ∧ Aside0 (kq ≤ k) ∧ Aside0 (Kd.R k54 54 w' w.heap.size (fun _ => True) v1 t1) ∧ Aside0 (w'.heap[g1]? = some (.cells #[.bool t2, .string t3, .string t4] 29 (0, 0))) ∧ Aside0 (w'.heap[g2]? = some (.cells #[.bool x2, .string x3, .string x4] 29 (0, 0))) ∧ Aside0 (Below w.heap.size w w'))
 case atStart => exact ⟨(wrap64 (a2)), (t5), (t6), (t7), zq1, H', ⟨Nat.le_refl _⟩, ⟨by (with_reducible repeat (first | apply Kd.R_alloc | apply Kd.R_drewN | apply Kd.R_drew)); exact Kd.R_mono (Kd.R_far (p := ⟨g2, 2, none⟩) (Kd.R_far (p := ⟨g2, 1, none⟩) (Kd.R_far (p := ⟨g2, 0, none⟩) (Kd.R_types O1.out B2.out (by decide)) (fun _ hk => hk.2) (.bool t5)) (fun _ hk => hk.2) (.string t6)) (fun _ hk => hk.2) (.string t7)) (fun _ hk => trivial)⟩, ⟨bC B1⟩, ⟨bC B2⟩, ⟨zH⟩⟩
 case round =>
  clear H'
  obtain ⟨x1, x2, x3, x4, rfl, HA, HK1, HO_9, B1, B2, HB⟩ := hrel
  cases gk with
  | zero => exact absurd HA.out (by simp [L6InterestSums.l0])
  | succ k1 =>
   have H := HA.out
   clear HA
   simp only [L6InterestSums.l0] at H
   replace H := iL H
   rcases H with ⟨c2b0, H⟩ | ⟨c2b0, H⟩
   ·replace ⟨⟨t8, t9, t10, t11⟩, A5, H⟩ := bS H
    (try dsimp only at H)
    replace H := iQ H
    rcases H with ⟨c3b0, c3b1, H⟩ | ⟨c3b0, c3b1, H⟩
    ·replace ⟨⟨t12, t13, t14⟩, A6, H⟩ := bS H
     (try dsimp only at H)
     have H' := Aside0.mk H
     clear H
     obtain ⟨P1, d1, u1⟩ := Kd.R_slice HO_9.out
     subst u1
     go_wp2_with (first | (refine gB 39 Tryd.func22 (I1Rate.calls _ _ _ _ _ _ _ _ _ _ ?side1 ?side2 A5.out) fun w6 hb HB => ?_; (case side1 => exact sC (Kd.R_reads' HO_9.out).2.2); (case side2 => exact (Kd.R_reads' HO_9.out).2.1); replace HO_9 := rB HO_9 hb; replace B1 := bB B1 hb; replace B2 := bB B2 hb; clear hb) | (refine bxZ w 13 29 fun g3 w7 B3 G3 hg hb HB => ?_; obtain ⟨N3, N4⟩ := nP B1 hg; obtain ⟨N5, N6⟩ := nP B2 hg; replace HO_9 := rB HO_9 hb; replace B1 := bB B1 hb; replace B2 := bB B2 hb; clear hb hg; have m2 := N4; have n2 := N3; have m3 := N6; have n3 := N5; obtain ⟨_, _, _, _, _, _⟩ := xB3 B3; have m4 := N2; have n4 := N1; obtain ⟨_, _, _, _, _, _⟩ := xB3 B2) | (refine gB 46 Tryd.func20 (Q1Add.calls _ _ _ _ _ _ _ _ _ _ _ A6.out) fun w8 hb _ => ?_; replace HO_9 := Aside0.mk (Kd.R_below (by (with_reducible repeat (first | apply Kd.R_alloc | apply Kd.R_drewN | apply Kd.R_drew)); exact (Kd.R_mono (Kd.R_far (p := ⟨g3, 2, none⟩) (Kd.R_far (p := ⟨g3, 1, none⟩) (Kd.R_far (p := ⟨g3, 0, none⟩) (Kd.R_types HO_9.out B3.out (by decide)) (fun _ hk => hk.2) (.bool t8)) (fun _ hk => hk.2) (.string t9)) (fun _ hk => hk.2) (.string t10)) (fun _ h_ => h_.1))) hb); replace B1 := bV B1 hb; replace B2 := bV B2 hb; replace B3 := bV B3 hb; replace HB := sB hb; (try clear hb); obtain ⟨_, _, _, _, _, _⟩ := xB3 B2))
     go_roundg k1
     case measure => have := HK1.out; omega
     case rel => exact ⟨(wrap64 (x1 + 1)), (t12), (t13), (t14), zq1, H', ⟨zq3⟩, ⟨by (with_reducible repeat (first | apply Kd.R_alloc | apply Kd.R_drewN | apply Kd.R_drew)); exact Kd.R_mono (Kd.R_far (p := ⟨g2, 2, none⟩) (Kd.R_far (p := ⟨g2, 1, none⟩) (Kd.R_far (p := ⟨g2, 0, none⟩) (Kd.R_types HO_9.out B2.out (by decide)) (fun _ hk => hk.2) (.bool t12)) (fun _ hk => hk.2) (.string t13)) (fun _ hk => hk.2) (.string t14)) (fun _ hk => trivial)⟩, ⟨bC B1⟩, ⟨bC B2⟩, ⟨zH⟩⟩
    ·obtain rfl := sI H
     obtain ⟨P1, d1, u1⟩ := Kd.R_slice HO_9.out
     subst u1
     go_wp2_with (first | (refine gB 39 Tryd.func22 (I1Rate.calls _ _ _ _ _ _ _ _ _ _ ?side1 ?side2 A5.out) fun w6 hb HB => ?_; (case side1 => exact sC (Kd.R_reads' HO_9.out).2.2); (case side2 => exact (Kd.R_reads' HO_9.out).2.1); replace HO_9 := rB HO_9 hb; replace B1 := bB B1 hb; replace B2 := bB B2 hb; clear hb) | (refine bxZ w 13 29 fun g3 w7 B3 G3 hg hb HB => ?_; obtain ⟨N3, N4⟩ := nP B1 hg; obtain ⟨N5, N6⟩ := nP B2 hg; replace HO_9 := rB HO_9 hb; replace B1 := bB B1 hb; replace B2 := bB B2 hb; clear hb hg; have m2 := N4; have n2 := N3; have m3 := N6; have n3 := N5; obtain ⟨_, _, _, _, _, _⟩ := xB3 B3))
     go_ret
     exact ⟨zE, zH⟩
   ·replace ⟨⟨t8, t9, t10⟩, A5, H⟩ := bS H
    (try dsimp only at H)
    replace ⟨⟨t11, t12, t13⟩, A6, H⟩ := bS H
    (try dsimp only at H)
    replace ⟨⟨t14, t15, t16, t17⟩, A7, H⟩ := bS H
    (try dsimp only at H)
    replace ⟨⟨t18, t19, t20, t21⟩, A8, H⟩ := bS H
    (try dsimp only at H)
    replace ⟨t22, A9, H⟩ := bS H
    by_cases c3 : t22 = true
    ·subst c3
     rw [if_pos rfl] at H
     replace H := iQ H
     rcases H with ⟨c4b0, c4b1, H⟩ | ⟨c4b0, c4b1, H⟩
     ·obtain rfl := sI H
      obtain ⟨_, _, _, _, _, _⟩ := xB3 B1
      obtain ⟨_, _, _, _, _, _⟩ := xB3 B2
      go_wp2_with (first | (refine gB 50 Tryd.func19 (Q1Multiply.calls _ _ _ _ _ _ _ _ _ _ _ A5.out) fun w6 hb HB => ?_; replace HO_9 := rB HO_9 hb; replace B1 := bB B1 hb; replace B2 := bB B2 hb; clear hb) | (refine gB 51 Tryd.func24 (Q1Int.calls _ _ _ _ _ _ A6.out) fun w7 hb HB => ?_; replace HO_9 := rB HO_9 hb; replace B1 := bB B1 hb; replace B2 := bB B2 hb; clear hb) | (refine gB 52 Tryd.func25 (Q1Divide.calls _ _ _ _ _ _ _ _ _ _ _ _ A7.out) fun w8 hb HB => ?_; replace HO_9 := rB HO_9 hb; replace B1 := bB B1 hb; replace B2 := bB B2 hb; clear hb) | (refine bxZ w 15 29 fun g3 w9 B3 G3 hg hb HB => ?_; obtain ⟨N3, N4⟩ := nP B1 hg; obtain ⟨N5, N6⟩ := nP B2 hg; replace HO_9 := rB HO_9 hb; replace B1 := bB B1 hb; replace B2 := bB B2 hb; clear hb hg; have m3 := N4; have n3 := N3; have m4 := N6; have n4 := N5; obtain ⟨_, _, _, _, _, _⟩ := xB3 B3; obtain ⟨_, _, _, _, _, _⟩ := xB3 B1; obtain ⟨P1, d1, u1⟩ := Kd.R_slice HO_9.out; subst u1) | (refine gB 66 Tryd.func15 (I1Simple.calls _ _ _ _ _ _ _ _ _ _ _ _ _ _ _ ?side1 ?side2 A8.out) fun w10 hb _ => ?_; (case side1 => refine (Kd.R_reads' (e := 54) (base := w.heap.size) (ok := fun k_ => True) (n := t1.length) (c := d1) ?_).2.2; exact zq26); (case side2 => exact (Kd.R_reads' HO_9.out).2.1); replace HO_9 := Aside0.mk (Kd.R_below zq26 hb); replace B1 := bV B1 hb; replace B2 := bV B2 hb; replace B3 := bV B3 hb; replace HB := sB hb; (try clear hb)) | (refine bxZ w 17 29 fun g4 w11 B4 G4 hg hb HB => ?_; obtain ⟨N7, N8⟩ := nP B1 hg; obtain ⟨N9, N10⟩ := nP B2 hg; obtain ⟨N11, N12⟩ := nP B3 hg; replace HO_9 := rB HO_9 hb; replace B1 := bB B1 hb; replace B2 := bB B2 hb; replace B3 := bB B3 hb; clear hb hg; have m5 := N8; have n5 := N7; have m6 := N10; have n6 := N9; have m7 := N12; have n7 := N11; obtain ⟨_, _, _, _, _, _⟩ := xB3 B4) | (refine gB 69 Tryd.func11 (L6awake.calls _ _ _ A9.out) fun w12 hb _ => ?_; replace HO_9 := Aside0.mk (Kd.R_below zq59 hb); replace B1 := bV B1 hb; replace B2 := bV B2 hb; replace B3 := bV B3 hb; replace B4 := bV B4 hb; replace HB := sB hb; (try clear hb); obtain ⟨_, _, _, _, _, _⟩ := xB3 B4; obtain ⟨_, _, _, _, _, _⟩ := xB3 B3))
      go_ret
      exact ⟨zE, zH⟩
     ·obtain rfl := sI H
      obtain ⟨_, _, _, _, _, _⟩ := xB3 B1
      obtain ⟨_, _, _, _, _, _⟩ := xB3 B2
      go_wp2_with (first | (refine gB 50 Tryd.func19 (Q1Multiply.calls _ _ _ _ _ _ _ _ _ _ _ A5.out) fun w6 hb HB => ?_; replace HO_9 := rB HO_9 hb; replace B1 := bB B1 hb; replace B2 := bB B2 hb; clear hb) | (refine gB 51 Tryd.func24 (Q1Int.calls _ _ _ _ _ _ A6.out) fun w7 hb HB => ?_; replace HO_9 := rB HO_9 hb; replace B1 := bB B1 hb; replace B2 := bB B2 hb; clear hb) | (refine gB 52 Tryd.func25 (Q1Divide.calls _ _ _ _ _ _ _ _ _ _ _ _ A7.out) fun w8 hb HB => ?_; replace HO_9 := rB HO_9 hb; replace B1 := bB B1 hb; replace B2 := bB B2 hb; clear hb) | (refine bxZ w 15 29 fun g3 w9 B3 G3 hg hb HB => ?_; obtain ⟨N3, N4⟩ := nP B1 hg; obtain ⟨N5, N6⟩ := nP B2 hg; replace HO_9 := rB HO_9 hb; replace B1 := bB B1 hb; replace B2 := bB B2 hb; clear hb hg; have m3 := N4; have n3 := N3; have m4 := N6; have n4 := N5; obtain ⟨_, _, _, _, _, _⟩ := xB3 B3; obtain ⟨_, _, _, _, _, _⟩ := xB3 B1; obtain ⟨P1, d1, u1⟩ := Kd.R_slice HO_9.out; subst u1) | (refine gB 66 Tryd.func15 (I1Simple.calls _ _ _ _ _ _ _ _ _ _ _ _ _ _ _ ?side1 ?side2 A8.out) fun w10 hb _ => ?_; (case side1 => refine (Kd.R_reads' (e := 54) (base := w.heap.size) (ok := fun k_ => True) (n := t1.length) (c := d1) ?_).2.2; exact zq26); (case side2 => exact (Kd.R_reads' HO_9.out).2.1); replace HO_9 := Aside0.mk (Kd.R_below zq26 hb); replace B1 := bV B1 hb; replace B2 := bV B2 hb; replace B3 := bV B3 hb; replace HB := sB hb; (try clear hb)) | (refine bxZ w 17 29 fun g4 w11 B4 G4 hg hb HB => ?_; obtain ⟨N7, N8⟩ := nP B1 hg; obtain ⟨N9, N10⟩ := nP B2 hg; obtain ⟨N11, N12⟩ := nP B3 hg; replace HO_9 := rB HO_9 hb; replace B1 := bB B1 hb; replace B2 := bB B2 hb; replace B3 := bB B3 hb; clear hb hg; have m5 := N8; have n5 := N7; have m6 := N10; have n6 := N9; have m7 := N12; have n7 := N11; obtain ⟨_, _, _, _, _, _⟩ := xB3 B4) | (refine gB 69 Tryd.func11 (L6awake.calls _ _ _ A9.out) fun w12 hb _ => ?_; replace HO_9 := Aside0.mk (Kd.R_below zq59 hb); replace B1 := bV B1 hb; replace B2 := bV B2 hb; replace B3 := bV B3 hb; replace B4 := bV B4 hb; replace HB := sB hb; (try clear hb)))
      go_ret
      exact ⟨zE, zH⟩
    ·replace c3 := Bool.eq_false_iff.mpr c3
     subst c3
     rw [if_neg (show ¬ (false = true) by decide)] at H
     obtain rfl := sI H
     obtain ⟨_, _, _, _, _, _⟩ := xB3 B1
     obtain ⟨_, _, _, _, _, _⟩ := xB3 B2
     go_wp2_with (first | (refine gB 50 Tryd.func19 (Q1Multiply.calls _ _ _ _ _ _ _ _ _ _ _ A5.out) fun w6 hb HB => ?_; replace HO_9 := rB HO_9 hb; replace B1 := bB B1 hb; replace B2 := bB B2 hb; clear hb) | (refine gB 51 Tryd.func24 (Q1Int.calls _ _ _ _ _ _ A6.out) fun w7 hb HB => ?_; replace HO_9 := rB HO_9 hb; replace B1 := bB B1 hb; replace B2 := bB B2 hb; clear hb) | (refine gB 52 Tryd.func25 (Q1Divide.calls _ _ _ _ _ _ _ _ _ _ _ _ A7.out) fun w8 hb HB => ?_; replace HO_9 := rB HO_9 hb; replace B1 := bB B1 hb; replace B2 := bB B2 hb; clear hb) | (refine bxZ w 15 29 fun g3 w9 B3 G3 hg hb HB => ?_; obtain ⟨N3, N4⟩ := nP B1 hg; obtain ⟨N5, N6⟩ := nP B2 hg; replace HO_9 := rB HO_9 hb; replace B1 := bB B1 hb; replace B2 := bB B2 hb; clear hb hg; have m3 := N4; have n3 := N3; have m4 := N6; have n4 := N5; obtain ⟨_, _, _, _, _, _⟩ := xB3 B3; obtain ⟨_, _, _, _, _, _⟩ := xB3 B1; obtain ⟨P1, d1, u1⟩ := Kd.R_slice HO_9.out; subst u1) | (refine gB 66 Tryd.func15 (I1Simple.calls _ _ _ _ _ _ _ _ _ _ _ _ _ _ _ ?side1 ?side2 A8.out) fun w10 hb _ => ?_; (case side1 => refine (Kd.R_reads' (e := 54) (base := w.heap.size) (ok := fun k_ => True) (n := t1.length) (c := d1) ?_).2.2; exact zq26); (case side2 => exact (Kd.R_reads' HO_9.out).2.1); replace HO_9 := Aside0.mk (Kd.R_below zq26 hb); replace B1 := bV B1 hb; replace B2 := bV B2 hb; replace B3 := bV B3 hb; replace HB := sB hb; (try clear hb)) | (refine bxZ w 17 29 fun g4 w11 B4 G4 hg hb HB => ?_; obtain ⟨N7, N8⟩ := nP B1 hg; obtain ⟨N9, N10⟩ := nP B2 hg; obtain ⟨N11, N12⟩ := nP B3 hg; replace HO_9 := rB HO_9 hb; replace B1 := bB B1 hb; replace B2 := bB B2 hb; replace B3 := bB B3 hb; clear hb hg; have m5 := N8; have n5 := N7; have m6 := N10; have n6 := N9; have m7 := N12; have n7 := N11; obtain ⟨_, _, _, _, _, _⟩ := xB3 B4) | (refine gB 69 Tryd.func11 (L6awake.calls _ _ _ A9.out) fun w12 hb _ => ?_; replace HO_9 := Aside0.mk (Kd.R_below zq59 hb); replace B1 := bV B1 hb; replace B2 := bV B2 hb; replace B3 := bV B3 hb; replace B4 := bV B4 hb; replace HB := sB hb; (try clear hb)))
     go_ret
     exact ⟨zE, zH⟩
def L6InterestAtLeast.f (k : Nat) (a0 : Int) (l1 : List (S64)) (a2 a3 a4 : Int) : Option (Bool) := (L0Steps.f k l1).bind fun t1107 => ((L0Amount.f k a0).bind fun bt1110 => ((I1Simple.f k bt1110.1 bt1110.2.1 bt1110.2.2 t1107 (wrap64 (a2)) (wrap64 ((wrap64 (a2)) + (wrap64 (Int.tmod a3 80)))) 360).bind fun bt1114 => ((I1Compound.f k bt1110.1 bt1110.2.1 bt1110.2.2 t1107 (wrap64 (a2)) (wrap64 ((wrap64 (a2)) + (wrap64 (Int.tmod a3 80)))) 360 (wrap64 (2 + (wrap64 (Int.tmod a4 90))))).bind fun bt1119 => ((Q1Compare.f k bt1119.1 bt1119.2.1 bt1119.2.2.1 bt1114.1 bt1114.2.1 bt1114.2.2.1).bind fun t1124 => ((L6awake.f k).bind fun t1125 => (if t1125 = true then (if bt1114.2.2.2 = 0 then (if bt1119.2.2.2 = 0 then (if t1124 ≥ 0 then (if (wrap64 (Int.tmod a3 80)) > (wrap64 (2 + (wrap64 (Int.tmod a4 90)))) then (some true) else (some (t1124 == 0))) else (some false)) else (some false)) else (some false)) else (some false)))))))
set_option maxHeartbeats 8000000 in
set_option maxRecDepth 100000 in
theorem L6InterestAtLeast.calls (k : Nat) (a0 : Int) (A1 : Option Addr) (c1 : Nat) (l1 : List (S64)) (a2 a3 a4 : Int) (r : Bool) (w : World) (hr1 : Kd.C k64 w A1 l1.length l1) (hc1 : l1.length ≤ c1) (H : L6InterestAtLeast.f k a0 l1 a2 a3 a4 = some r) :
 Calls Tryd.prog 9 #[.int .u16 a0, .slice A1 l1.length c1, .int .u8 a2, .int .u8 a3, .int .u8 a4] w fun e w' => e = .returned (.bool r) ∧ Below w.heap.size w w' := by
 have hu1 := Tryd.underlying29
 have HR1 := Aside0.mk hr1
 have HC1 := Aside0.mk hc1
 clear hr1 hc1
 have HB := Aside0.mk (Below.refl w.heap.size w)
 unfold L6InterestAtLeast.f at H
 replace ⟨t1, A2, H⟩ := bS H
 replace ⟨⟨t2, t3, t4⟩, A3, H⟩ := bS H
 (try dsimp only at H)
 replace ⟨⟨t5, t6, t7, t8⟩, A4, H⟩ := bS H
 (try dsimp only at H)
 replace ⟨⟨t9, t10, t11, t12⟩, A5, H⟩ := bS H
 (try dsimp only at H)
 replace ⟨t13, A6, H⟩ := bS H
 replace ⟨t14, A7, H⟩ := bS H
 by_cases c2 : t14 = true
 ·subst c2
  rw [if_pos rfl] at H
  replace H := iQ H
  rcases H with ⟨c3b0, c3b1, H⟩ | ⟨c3b0, c3b1, H⟩
  replace H := iQ H
  rcases H with ⟨c4b0, c4b1, H⟩ | ⟨c4b0, c4b1, H⟩
  replace H := iL H
  rcases H with ⟨c5b0, H⟩ | ⟨c5b0, H⟩
  replace H := iL H
  rcases H with ⟨c6b0, H⟩ | ⟨c6b0, H⟩
  obtain rfl := sI H
  rotate_left
  obtain rfl := sI H
  rotate_left
  obtain rfl := sI H
  rotate_left
  obtain rfl := sI H
  rotate_left
  obtain rfl := sI H
  rotate_left
  all_goals
   go_enter Tryd.func9, Tryd.ntmps9
   go_wp2_with (first | (refine gR 21 Tryd.func17 (L0Steps.calls k _ _ l1 t1 _ ?side1 ?side2 A2.out) fun v1 w1 ho0 hb => ?_; (case side1 => exact sC HR1.out); (case side2 => exact HC1.out); have O1 := Aside0.mk (Kd.R_lower ho0 (below_size zH)); replace HB := sB hb; (try clear hb); (try clear ho0)) | (refine gB 23 Tryd.func18 (L0Amount.calls _ _ _ _ _ _ A3.out) fun w2 hb HB => ?_; replace O1 := rB O1 hb; clear hb) | (refine bxZ w 12 29 fun g1 w3 B1 G1 hg hb HB => ?_; replace O1 := rB O1 hb; clear hb hg; obtain ⟨_, _, _, _, _, _⟩ := xB3 B1; obtain ⟨P1, d1, u1⟩ := Kd.R_slice O1.out; subst u1) | (refine gB 40 Tryd.func15 (I1Simple.calls _ _ _ _ _ _ _ _ _ _ _ _ _ _ _ ?side1 ?side2 A4.out) fun w4 hb _ => ?_; (case side1 => refine (Kd.R_reads' (e := 54) (base := w.heap.size) (ok := fun k_ => True) (n := t1.length) (c := d1) ?_).2.2; exact zq19); (case side2 => exact (Kd.R_reads' O1.out).2.1); replace O1 := Aside0.mk (Kd.R_below zq19 hb); replace B1 := bV B1 hb; replace HB := sB hb; (try clear hb)) | (refine bxZ w 15 29 fun g2 w5 B2 G2 hg hb HB => ?_; obtain ⟨N1, N2⟩ := nP B1 hg; replace O1 := rB O1 hb; replace B1 := bB B1 hb; clear hb hg; have m1 := N2; have n1 := N1; obtain ⟨_, _, _, _, _, _⟩ := xB3 B2; obtain ⟨_, _, _, _, _, _⟩ := xB3 B1) | (refine gB 50 Tryd.func21 (I1Compound.calls _ _ _ _ _ _ _ _ _ _ _ _ _ _ _ _ ?side1 ?side2 A5.out) fun w6 hb _ => ?_; (case side1 => refine (Kd.R_reads' (e := 54) (base := w.heap.size) (ok := fun k_ => True) (n := t1.length) (c := d1) ?_).2.2; exact zq32); (case side2 => exact (Kd.R_reads' O1.out).2.1); replace O1 := Aside0.mk (Kd.R_below zq32 hb); replace B1 := bV B1 hb; replace B2 := bV B2 hb; replace HB := sB hb; (try clear hb)) | (refine bxZ w 17 29 fun g3 w7 B3 G3 hg hb HB => ?_; obtain ⟨N3, N4⟩ := nP B1 hg; obtain ⟨N5, N6⟩ := nP B2 hg; replace O1 := rB O1 hb; replace B1 := bB B1 hb; replace B2 := bB B2 hb; clear hb hg; have m2 := N4; have n2 := N3; have m3 := N6; have n3 := N5; obtain ⟨_, _, _, _, _, _⟩ := xB3 B3; obtain ⟨_, _, _, _, _, _⟩ := xB3 B2) | (refine gB 55 Tryd.func26 (Q1Compare.calls _ _ _ _ _ _ _ _ _ A6.out) fun w8 hb _ => ?_; replace O1 := Aside0.mk (Kd.R_below zq64 hb); replace B1 := bV B1 hb; replace B2 := bV B2 hb; replace B3 := bV B3 hb; replace HB := sB hb; (try clear hb)) | (refine gB 56 Tryd.func11 (L6awake.calls k  true _ A7.out) fun w9 hb HB => ?_; replace O1 := rB O1 hb; replace B1 := bB B1 hb; replace B2 := bB B2 hb; replace B3 := bB B3 hb; clear hb))
   go_ret
   exact ⟨zE, zH⟩
 ·replace c2 := Bool.eq_false_iff.mpr c2
  subst c2
  rw [if_neg (show ¬ (false = true) by decide)] at H
  obtain rfl := sI H
  go_enter Tryd.func9, Tryd.ntmps9
  go_wp2_with (first | (refine gR 21 Tryd.func17 (L0Steps.calls k _ _ l1 t1 _ ?side1 ?side2 A2.out) fun v1 w1 ho0 hb => ?_; (case side1 => exact sC HR1.out); (case side2 => exact HC1.out); have O1 := Aside0.mk (Kd.R_lower ho0 (below_size zH)); replace HB := sB hb; (try clear hb); (try clear ho0)) | (refine gB 23 Tryd.func18 (L0Amount.calls _ _ _ _ _ _ A3.out) fun w2 hb HB => ?_; replace O1 := rB O1 hb; clear hb) | (refine bxZ w 12 29 fun g1 w3 B1 G1 hg hb HB => ?_; replace O1 := rB O1 hb; clear hb hg; obtain ⟨_, _, _, _, _, _⟩ := xB3 B1; obtain ⟨P1, d1, u1⟩ := Kd.R_slice O1.out; subst u1) | (refine gB 40 Tryd.func15 (I1Simple.calls _ _ _ _ _ _ _ _ _ _ _ _ _ _ _ ?side1 ?side2 A4.out) fun w4 hb _ => ?_; (case side1 => refine (Kd.R_reads' (e := 54) (base := w.heap.size) (ok := fun k_ => True) (n := t1.length) (c := d1) ?_).2.2; exact zq19); (case side2 => exact (Kd.R_reads' O1.out).2.1); replace O1 := Aside0.mk (Kd.R_below zq19 hb); replace B1 := bV B1 hb; replace HB := sB hb; (try clear hb)) | (refine bxZ w 15 29 fun g2 w5 B2 G2 hg hb HB => ?_; obtain ⟨N1, N2⟩ := nP B1 hg; replace O1 := rB O1 hb; replace B1 := bB B1 hb; clear hb hg; have m1 := N2; have n1 := N1; obtain ⟨_, _, _, _, _, _⟩ := xB3 B2; obtain ⟨_, _, _, _, _, _⟩ := xB3 B1) | (refine gB 50 Tryd.func21 (I1Compound.calls _ _ _ _ _ _ _ _ _ _ _ _ _ _ _ _ ?side1 ?side2 A5.out) fun w6 hb _ => ?_; (case side1 => refine (Kd.R_reads' (e := 54) (base := w.heap.size) (ok := fun k_ => True) (n := t1.length) (c := d1) ?_).2.2; exact zq32); (case side2 => exact (Kd.R_reads' O1.out).2.1); replace O1 := Aside0.mk (Kd.R_below zq32 hb); replace B1 := bV B1 hb; replace B2 := bV B2 hb; replace HB := sB hb; (try clear hb)) | (refine bxZ w 17 29 fun g3 w7 B3 G3 hg hb HB => ?_; obtain ⟨N3, N4⟩ := nP B1 hg; obtain ⟨N5, N6⟩ := nP B2 hg; replace O1 := rB O1 hb; replace B1 := bB B1 hb; replace B2 := bB B2 hb; clear hb hg; have m2 := N4; have n2 := N3; have m3 := N6; have n3 := N5; obtain ⟨_, _, _, _, _, _⟩ := xB3 B3; obtain ⟨_, _, _, _, _, _⟩ := xB3 B2) | (refine gB 55 Tryd.func26 (Q1Compare.calls _ _ _ _ _ _ _ _ _ A6.out) fun w8 hb _ => ?_; replace O1 := Aside0.mk (Kd.R_below zq64 hb); replace B1 := bV B1 hb; replace B2 := bV B2 hb; replace B3 := bV B3 hb; replace HB := sB hb; (try clear hb)) | (refine gB 56 Tryd.func11 (L6awake.calls _ _ _ A7.out) fun w9 hb HB => ?_; replace O1 := rB O1 hb; replace B1 := bB B1 hb; replace B2 := bB B2 hb; replace B3 := bB B3 hb; clear hb))
  go_ret
  exact ⟨zE, zH⟩
def L6InterestAdditive.f (k : Nat) (a0 a1 : Int) (l2 : List (S64)) (a3 a4 a5 : Int) : Option (Bool) := (L0Steps.f k l2).bind fun t988 => ((L0Amount.f k a0).bind fun bt991 => ((L0Amount.f k a1).bind fun bt994 => ((I1Simple.f k bt991.1 bt991.2.1 bt991.2.2 t988 (wrap64 (a3)) (wrap64 ((wrap64 (a3)) + (wrap64 (a4)))) 365).bind fun bt999 => ((I1Simple.f k bt991.1 bt991.2.1 bt991.2.2 t988 (wrap64 ((wrap64 (a3)) + (wrap64 (a4)))) (wrap64 ((wrap64 ((wrap64 (a3)) + (wrap64 (a4)))) + (wrap64 (a5)))) 365).bind fun bt1004 => ((I1Simple.f k bt991.1 bt991.2.1 bt991.2.2 t988 (wrap64 (a3)) (wrap64 ((wrap64 ((wrap64 (a3)) + (wrap64 (a4)))) + (wrap64 (a5)))) 365).bind fun bt1009 => ((Q1Multiply.f k bt991.1 bt991.2.1 bt991.2.2 bt994.1 bt994.2.1 bt994.2.2).bind fun bt1014 => ((I1Simple.f k bt1014.1 bt1014.2.1 bt1014.2.2 t988 (wrap64 (a3)) (wrap64 ((wrap64 ((wrap64 (a3)) + (wrap64 (a4)))) + (wrap64 (a5)))) 365).bind fun bt1017 => ((L6awake.f k).bind fun t1022 => (if t1022 = true then (if bt999.2.2.2 = 0 then (if bt1004.2.2.2 = 0 then (if bt1009.2.2.2 = 0 then (if bt1017.2.2.2 = 0 then ((Q1Add.f k bt999.1 bt999.2.1 bt999.2.2.1 bt1004.1 bt1004.2.1 bt1004.2.2.1).bind fun bt1023 => (if (bt1023.1 == bt1009.1 && (bt1023.2.1.toList == bt1009.2.1.toList && (bt1023.2.2.toList == bt1009.2.2.1.toList))) = true then ((Q1Multiply.f k bt1009.1 bt1009.2.1 bt1009.2.2.1 bt994.1 bt994.2.1 bt994.2.2).bind fun bt1026 => (some (bt1017.1 == bt1026.1 && (bt1017.2.1.toList == bt1026.2.1.toList && (bt1017.2.2.1.toList == bt1026.2.2.toList))))) else (some false))) else (some false)) else (some false)) else (some false)) else (some false)) else (some false))))))))))
def L6InterestAdditive.T8 : Bool × List (List Nat × List Nat) := (true, [([], []), ([0, 0], [0]), ([1], [1]), ([2, 1], [1, 2]), ([1, 3], [1, 3]), ([4, 1], [4]), ([5], [5]), ([6, 5], [5, 6]), ([5, 7], [5, 7]), ([8, 5], [8]), ([9], [9]), ([10, 9], [9, 10]), ([9, 11], [9, 11]), ([12, 9], [12]), ([13], [13]), ([14, 13], [13, 14]), ([13, 15], [13, 15]), ([16, 13], [16]), ([17], [17]), ([17], [17]), ([18, 19, 17, 17], [17, 18, 19]), ([17], [17]), ([20, 21, 17], [17, 20, 21]), ([17, 22], [17, 22]), ([23, 20], [23]), ([24], [24]), ([24], [24]), ([24], [24]), ([26, 27, 24, 24], [24, 26, 27]), ([25, 28, 24], [24, 25, 28]), ([24, 29], [24, 29]), ([30, 28, 0, 1, 2, 3, 4, 5, 6, 7, 8, 9, 10, 11, 12, 13, 14, 15, 16, 17, 18, 19, 20, 21, 22, 23, 24, 25, 26, 27, 28, 29, 30], [30])])
def L6InterestAdditive.B8 : List Nat := [0, 1, 3, 7, 15, 31, 63, 127, 255, 511, 1023, 2047, 4095, 8191, 16383, 32767, 65535, 131071, 262143, 262143, 1048575, 262143, 4194303, 8388607, 16777215, 33554431, 33554431, 33554431, 234881023, 536870911, 1073741823, 2147483647]
theorem L6InterestAdditive.tab8 : rtab .any (opsOf Tryd.f5 8) = L6InterestAdditive.T8 := by kernel_rfl
theorem L6InterestAdditive.bits8 : waitsOk L6InterestAdditive.T8.2 L6InterestAdditive.B8 = true := by kernel_rfl
set_option maxHeartbeats 8000000 in
set_option maxRecDepth 100000 in
theorem L6InterestAdditive.calls (k : Nat) (a0 a1 : Int) (A2 : Option Addr) (c2 : Nat) (l2 : List (S64)) (a3 a4 a5 : Int) (r : Bool) (w : World) (hr2 : Kd.C k64 w A2 l2.length l2) (hc2 : l2.length ≤ c2) (H : L6InterestAdditive.f k a0 a1 l2 a3 a4 a5 = some r) :
 Calls Tryd.prog 5 #[.int .u16 a0, .int .u16 a1, .slice A2 l2.length c2, .int .u8 a3, .int .u8 a4, .int .u8 a5] w fun e w' => e = .returned (.bool r) ∧ Below w.heap.size w w' := by
 have hu1 := Tryd.underlying29
 have HR2 := Aside0.mk hr2
 have HC2 := Aside0.mk hc2
 clear hr2 hc2
 have HB := Aside0.mk (Below.refl w.heap.size w)
 unfold L6InterestAdditive.f at H
 replace ⟨t1, A1, H⟩ := bS H
 replace ⟨⟨t2, t3, t4⟩, A3, H⟩ := bS H
 (try dsimp only at H)
 replace ⟨⟨t5, t6, t7⟩, A4, H⟩ := bS H
 (try dsimp only at H)
 replace ⟨⟨t8, t9, t10, t11⟩, A5, H⟩ := bS H
 (try dsimp only at H)
 replace ⟨⟨t12, t13, t14, t15⟩, A6, H⟩ := bS H
 (try dsimp only at H)
 replace ⟨⟨t16, t17, t18, t19⟩, A7, H⟩ := bS H
 (try dsimp only at H)
 replace ⟨⟨t20, t21, t22⟩, A8, H⟩ := bS H
 (try dsimp only at H)
 replace ⟨⟨t23, t24, t25, t26⟩, A9, H⟩ := bS H
 (try dsimp only at H)
 replace ⟨t27, A10, H⟩ := bS H
 by_cases c1 : t27 = true
 subst c1
 rw [if_pos rfl] at H
 replace H := iQ H
 rcases H with ⟨c3b0, c3b1, H⟩ | ⟨c3b0, c3b1, H⟩
 replace H := iQ H
 rcases H with ⟨c4b0, c4b1, H⟩ | ⟨c4b0, c4b1, H⟩
 replace H := iQ H
 rcases H with ⟨c5b0, c5b1, H⟩ | ⟨c5b0, c5b1, H⟩
 replace H := iQ H
 rcases H with ⟨c6b0, c6b1, H⟩ | ⟨c6b0, c6b1, H⟩
 replace ⟨⟨t28, t29, t30⟩, A11, H⟩ := bS H
 (try dsimp only at H)
 by_cases c7 : (t28 == t16 && (t29.toList == t17.toList && (t30.toList == t18.toList))) = true
 rw [if_pos c7] at H
 have c7b0 : (t28 == t16 && (t29.toList == t17.toList && (t30.toList == t18.toList))) = true := c7
 (try (have c7b1 : decide (t28 = t16 && (t29.toList == t17.toList && (t30.toList == t18.toList))) = true := by simpa using c7))
 (try (have c7b2 : (t28 == t16 && (t29.toList == t17.toList && (t30.toList == t18.toList))) = true := by simpa using c7))
 clear c7
 replace ⟨⟨t31, t32, t33⟩, A12, H⟩ := bS H
 (try dsimp only at H)
 obtain rfl := sI H
 rotate_left
 rw [if_neg c7] at H
 have c7b0 : (t28 == t16 && (t29.toList == t17.toList && (t30.toList == t18.toList))) = false := by simpa using c7
 (try (have c7b1 : decide (t28 = t16 && (t29.toList == t17.toList && (t30.toList == t18.toList))) = false := by simpa using c7))
 (try (have c7b2 : (t28 == t16 && (t29.toList == t17.toList && (t30.toList == t18.toList))) = false := by simpa using c7))
 (try (have c7b3 : ¬ (t28 = t16 && (t29.toList == t17.toList && (t30.toList == t18.toList))) := by simpa using c7))
 clear c7
 obtain rfl := sI H
 rotate_left
 obtain rfl := sI H
 rotate_left
 obtain rfl := sI H
 rotate_left
 obtain rfl := sI H
 rotate_left
 obtain rfl := sI H
 rotate_left
 replace c1 := Bool.eq_false_iff.mpr c1
 subst c1
 rw [if_neg (show ¬ (false = true) by decide)] at H
 obtain rfl := sI H
 rotate_left
 all_goals
  go_enter Tryd.func5, Tryd.ntmps5
  try go_wp2_with (first | (refine gR 28 Tryd.func17 (L0Steps.calls k _ _ l2 t1 _ ?side1 ?side2 A1.out) fun v1 w1 ho0 hb => ?_; (case side1 => exact sC HR2.out); (case side2 => exact HC2.out); have O1 := Aside0.mk (Kd.R_lower ho0 (below_size zH)); replace HB := sB hb; (try clear hb); (try clear ho0)) | (refine gB 30 Tryd.func18 (L0Amount.calls _ _ _ _ _ _ A3.out) fun w2 hb HB => ?_; replace O1 := rB O1 hb; clear hb) | (refine gB 32 Tryd.func18 (L0Amount.calls _ _ _ _ _ _ A4.out) fun w3 hb HB => ?_; replace O1 := rB O1 hb; clear hb) | (refine bxZ w 14 29 fun g1 w4 B1 G1 hg hb HB => ?_; replace O1 := rB O1 hb; clear hb hg) | (refine bxZ w 15 29 fun g2 w5 B2 G2 hg hb HB => ?_; obtain ⟨N1, N2⟩ := nP B1 hg; replace O1 := rB O1 hb; replace B1 := bB B1 hb; clear hb hg; have m1 := N1; have n1 := N2; obtain ⟨_, _, _, _, _, _⟩ := xB3 B1; obtain ⟨_, _, _, _, _, _⟩ := xB3 B2; obtain ⟨P1, d1, u1⟩ := Kd.R_slice O1.out; subst u1) | (refine gB 53 Tryd.func15 (I1Simple.calls _ _ _ _ _ _ _ _ _ _ _ _ _ _ _ ?side1 ?side2 A5.out) fun w6 hb _ => ?_; (case side1 => refine (Kd.R_reads' (e := 54) (base := w.heap.size) (ok := fun k_ => True) (n := t1.length) (c := d1) ?_).2.2; exact zq65); (case side2 => exact (Kd.R_reads' O1.out).2.1); replace O1 := Aside0.mk (Kd.R_below zq65 hb); replace B1 := bV B1 hb; replace B2 := bV B2 hb; replace HB := sB hb; (try clear hb)) | (refine bxZ w 19 29 fun g3 w7 B3 G3 hg hb HB => ?_; obtain ⟨N3, N4⟩ := nP B1 hg; obtain ⟨N5, N6⟩ := nP B2 hg; replace O1 := rB O1 hb; replace B1 := bB B1 hb; replace B2 := bB B2 hb; clear hb hg; have m2 := N4; have n2 := N3; have m3 := N6; have n3 := N5; obtain ⟨_, _, _, _, _, _⟩ := xB3 B3; obtain ⟨_, _, _, _, _, _⟩ := xB3 B1) | (refine gB 61 Tryd.func15 (I1Simple.calls _ _ _ _ _ _ _ _ _ _ _ _ _ _ _ ?side1 ?side2 A6.out) fun w8 hb _ => ?_; (case side1 => refine (Kd.R_reads' (e := 54) (base := w.heap.size) (ok := fun k_ => True) (n := t1.length) (c := d1) ?_).2.2; exact zq66); (case side2 => exact (Kd.R_reads' O1.out).2.1); replace O1 := Aside0.mk (Kd.R_below zq66 hb); replace B1 := bV B1 hb; replace B2 := bV B2 hb; replace B3 := bV B3 hb; replace HB := sB hb; (try clear hb)) | (refine bxZ w 21 29 fun g4 w9 B4 G4 hg hb HB => ?_; obtain ⟨N7, N8⟩ := nP B1 hg; obtain ⟨N9, N10⟩ := nP B2 hg; obtain ⟨N11, N12⟩ := nP B3 hg; replace O1 := rB O1 hb; replace B1 := bB B1 hb; replace B2 := bB B2 hb; replace B3 := bB B3 hb; clear hb hg; have m4 := N8; have n4 := N7; have m5 := N10; have n5 := N9; have m6 := N12; have n6 := N11; obtain ⟨_, _, _, _, _, _⟩ := xB3 B4; obtain ⟨_, _, _, _, _, _⟩ := xB3 B1) | (refine gB 69 Tryd.func15 (I1Simple.calls _ _ _ _ _ _ _ _ _ _ _ _ _ _ _ ?side1 ?side2 A7.out) fun w10 hb _ => ?_; (case side1 => refine (Kd.R_reads' (e := 54) (base := w.heap.size) (ok := fun k_ => True) (n := t1.length) (c := d1) ?_).2.2; exact zq67); (case side2 => exact (Kd.R_reads' O1.out).2.1); replace O1 := Aside0.mk (Kd.R_below zq67 hb); replace B1 := bV B1 hb; replace B2 := bV B2 hb; replace B3 := bV B3 hb; replace B4 := bV B4 hb; replace HB := sB hb; (try clear hb)) | (refine bxZ w 23 29 fun g5 w11 B5 G5 hg hb HB => ?_; obtain ⟨N13, N14⟩ := nP B1 hg; obtain ⟨N15, N16⟩ := nP B2 hg; obtain ⟨N17, N18⟩ := nP B3 hg; obtain ⟨N19, N20⟩ := nP B4 hg; replace O1 := rB O1 hb; replace B1 := bB B1 hb; replace B2 := bB B2 hb; replace B3 := bB B3 hb; replace B4 := bB B4 hb; clear hb hg; have m7 := N14; have n7 := N13; have m8 := N16; have n8 := N15; have m9 := N18; have n9 := N17; have m10 := N20; have n10 := N19; obtain ⟨_, _, _, _, _, _⟩ := xB3 B5; obtain ⟨_, _, _, _, _, _⟩ := xB3 B1; obtain ⟨_, _, _, _, _, _⟩ := xB3 B2) | (refine gB 75 Tryd.func19 (Q1Multiply.calls _ _ _ _ _ _ _ _ _ _ _ A8.out) fun w12 hb _ => ?_; replace O1 := Aside0.mk (Kd.R_below (by (with_reducible repeat (first | apply Kd.R_alloc | apply Kd.R_drewN | apply Kd.R_drew)); exact (Kd.R_mono (Kd.R_far (p := ⟨g5, 2, none⟩) (Kd.R_far (p := ⟨g5, 1, none⟩) (Kd.R_far (p := ⟨g5, 0, none⟩) (Kd.R_types O1.out B5.out (by decide)) (fun _ hk => hk.2) (.bool t16)) (fun _ hk => hk.2) (.string t17)) (fun _ hk => hk.2) (.string t18)) (fun _ h_ => h_.1))) hb); replace B1 := bV B1 hb; replace B2 := bV B2 hb; replace B3 := bV B3 hb; replace B4 := bV B4 hb; replace B5 := bV B5 hb; replace HB := sB hb; (try clear hb)) | (refine gB 79 Tryd.func15 (I1Simple.calls _ _ _ _ _ _ _ _ _ _ _ _ _ _ _ ?side1 ?side2 A9.out) fun w13 hb HB => ?_; (case side1 => exact sC (Kd.R_reads' O1.out).2.2); (case side2 => exact (Kd.R_reads' O1.out).2.1); replace O1 := rB O1 hb; replace B1 := bB B1 hb; replace B2 := bB B2 hb; replace B3 := bB B3 hb; replace B4 := bB B4 hb; replace B5 := bB B5 hb; clear hb) | (refine bxZ w 25 29 fun g6 w14 B6 G6 hg hb HB => ?_; obtain ⟨N21, N22⟩ := nP B1 hg; obtain ⟨N23, N24⟩ := nP B2 hg; obtain ⟨N25, N26⟩ := nP B3 hg; obtain ⟨N27, N28⟩ := nP B4 hg; obtain ⟨N29, N30⟩ := nP B5 hg; replace O1 := rB O1 hb; replace B1 := bB B1 hb; replace B2 := bB B2 hb; replace B3 := bB B3 hb; replace B4 := bB B4 hb; replace B5 := bB B5 hb; clear hb hg; have m11 := N22; have n11 := N21; have m12 := N24; have n12 := N23; have m13 := N26; have n13 := N25; have m14 := N28; have n14 := N27; have m15 := N30; have n15 := N29; obtain ⟨_, _, _, _, _, _⟩ := xB3 B6))
  generalize hW_ : (((w14.setCell ⟨g6, 0, none⟩ (.bool t23)).setCell ⟨g6, 1, none⟩ (.string t24)).setCell ⟨g6, 2, none⟩ (.string t25)) = w15
  replace O1 : Aside0 (Kd.R k54 54 w15 w.heap.size (fun _ => True) (.slice P1 t1.length d1) t1) := ⟨by subst hW_; (with_reducible repeat (first | apply Kd.R_alloc | apply Kd.R_drewN | apply Kd.R_drew)); exact Kd.R_mono (Kd.R_far (p := ⟨g6, 2, none⟩) (Kd.R_far (p := ⟨g6, 1, none⟩) (Kd.R_far (p := ⟨g6, 0, none⟩) (Kd.R_types O1.out B6.out (by decide)) (fun _ hk => hk.2) (.bool t23)) (fun _ hk => hk.2) (.string t24)) (fun _ hk => hk.2) (.string t25)) (fun _ hk => trivial)⟩
  replace B1 : Aside0 (w15.heap[g1]? = some (.cells #[.bool t2, .string t3, .string t4] 29 (0, 0))) := bG hW_ B1
  replace B2 : Aside0 (w15.heap[g2]? = some (.cells #[.bool t5, .string t6, .string t7] 29 (0, 0))) := bG hW_ B2
  replace B3 : Aside0 (w15.heap[g3]? = some (.cells #[.bool t8, .string t9, .string t10] 29 (0, 0))) := bG hW_ B3
  replace B4 : Aside0 (w15.heap[g4]? = some (.cells #[.bool t12, .string t13, .string t14] 29 (0, 0))) := bG hW_ B4
  replace B5 : Aside0 (w15.heap[g5]? = some (.cells #[.bool t16, .string t17, .string t18] 29 (0, 0))) := bG hW_ B5
  replace B6 : Aside0 (w15.heap[g6]? = some (.cells #[.bool t23, .string t24, .string t25] 29 (0, 0))) := bG hW_ B6
  replace HB := hG hW_
  clear hW_
  replace O1 := rD O1
  replace B1 := bD B1
  replace B2 := bD B2
  replace B3 := bD B3
  replace B4 := bD B4
  replace B5 := bD B5
  replace B6 := bD B6
  replace HB := hD HB
 ·refine startA 32 (S := fun w' => w'.cell? ⟨g3, 0, none⟩ = some (.bool t8) ∧ w'.cell? ⟨g3, 1, none⟩ = some (.string t9) ∧ w'.cell? ⟨g3, 2, none⟩ = some (.string t10) ∧ w'.cell? ⟨g4, 0, none⟩ = some (.bool t12) ∧ w'.cell? ⟨g4, 1, none⟩ = some (.string t13) ∧ w'.cell? ⟨g4, 2, none⟩ = some (.string t14) ∧ w'.cell? ⟨g5, 0, none⟩ = some (.bool t16) ∧ w'.cell? ⟨g5, 1, none⟩ = some (.string t17) ∧ w'.cell? ⟨g5, 2, none⟩ = some (.string t18) ∧ w'.cell? ⟨g6, 0, none⟩ = some (.bool t23) ∧ w'.cell? ⟨g6, 1, none⟩ = some (.string t24) ∧ w'.cell? ⟨g6, 2, none⟩ = some (.string t25) ∧ w'.cell? ⟨g2, 0, none⟩ = some (.bool t5) ∧ w'.cell? ⟨g2, 1, none⟩ = some (.string t6) ∧ w'.cell? ⟨g2, 2, none⟩ = some (.string t7)) (ds := []) zK (fun hHeld => ?_); refine with_tabW L6InterestAdditive.tab8 L6InterestAdditive.bits8 (fun HT_ HW_ => ?_)
  generalize w15.drew = w16 at O1 B1 B2 B3 B4 B5 B6 HB hHeld ⊢
  refine rcB 0 1 Tryd.func11 (L6awake.calls k  true _ A10.out) hHeld br fun w17 hb hHeld => ?_
  refine pA 1 3 ?_
  refine pA 2 7 ?_
  refine pA 3 15 ?_
  refine pA 4 31 ?_
  refine pA 5 63 ?_
  refine pA 6 127 ?_
  refine pA 7 255 ?_
  refine pA 8 511 ?_
  refine pA 9 1023 ?_
  refine pA 10 2047 ?_
  refine pA 11 4095 ?_
  refine pA 12 8191 ?_
  refine pA 13 16383 ?_
  refine pA 14 32767 ?_
  refine pA 15 65535 ?_
  refine pA 16 131071 ?_
  refine pA 17 262143 ?_
  refine tA 18 524287 hHeld ?_
  refine tA 19 1048575 hHeld ?_
  refine tA 21 3145727 hHeld ?_
  refine rcB 20 4194303 Tryd.func20 (Q1Add.calls _ _ _ _ _ _ _ _ _ _ _ A11.out) hHeld hb fun w18 hb hHeld => ?_
  refine pA 22 8388607 ?_
  refine pA 23 16777215 ?_
  refine pA 24 33554431 ?_
  refine tA 25 67108863 hHeld ?_
  refine tA 26 134217727 hHeld ?_
  refine tA 27 268435455 hHeld ?_
  refine rcB 28 536870911 Tryd.func19 (Q1Multiply.calls _ _ _ _ _ _ _ _ _ _ _ A12.out) hHeld hb fun w19 hb hHeld => ?_
  refine pA 29 1073741823 ?_
  refine pA 30 2147483647 ?_
  refine pA 31 4294967295 ?_
  replace O1 := rB O1 hb
  replace B1 := bB B1 hb
  replace B2 := bB B2 hb
  replace B3 := bB B3 hb
  replace B4 := bB B4 hb
  replace B5 := bB B5 hb
  replace B6 := bB B6 hb
  replace HB := sB hb
  clear hb
  refine done_ (done_of HT_.out (by kernel_rfl)) ?_
  try go_wp2
  go_ret
  exact ⟨zE, zH⟩
 ·refine startC3 32 [] B3 B4 B5 (fun hHeld => ?_); refine with_tabW L6InterestAdditive.tab8 L6InterestAdditive.bits8 (fun HT_ HW_ => ?_)
  generalize w15.drew = w16 at O1 B1 B2 B3 B4 B5 B6 HB hHeld ⊢
  refine rcB 0 1 Tryd.func11 (L6awake.calls k  true _ A10.out) hHeld br fun w17 hb hHeld => ?_
  refine pA 1 3 ?_
  refine pA 2 7 ?_
  refine pA 3 15 ?_
  refine pA 4 31 ?_
  refine pA 5 63 ?_
  refine pA 6 127 ?_
  refine pA 7 255 ?_
  refine pA 8 511 ?_
  refine pA 9 1023 ?_
  refine pA 10 2047 ?_
  refine pA 11 4095 ?_
  refine pA 12 8191 ?_
  refine pA 13 16383 ?_
  refine pA 14 32767 ?_
  refine pA 15 65535 ?_
  refine pA 16 131071 ?_
  refine pA 17 262143 ?_
  refine tA 18 524287 hHeld ?_
  refine tA 19 1048575 hHeld ?_
  refine tA 21 3145727 hHeld ?_
  refine rcB 20 4194303 Tryd.func20 (Q1Add.calls _ _ _ _ _ _ _ _ _ _ _ A11.out) hHeld hb fun w18 hb hHeld => ?_
  refine pA 22 8388607 ?_
  refine pA 23 16777215 ?_
  refine pA 24 33554431 ?_
  refine uA 25 67108863 ?_
  refine uA 26 134217727 ?_
  refine uA 27 268435455 ?_
  refine uA 28 536870911 ?_
  refine uA 29 1073741823 ?_
  refine pA 30 2147483647 ?_
  refine pA 31 4294967295 ?_
  replace O1 := rB O1 hb
  replace B1 := bB B1 hb
  replace B2 := bB B2 hb
  replace B3 := bB B3 hb
  replace B4 := bB B4 hb
  replace B5 := bB B5 hb
  replace B6 := bB B6 hb
  replace HB := sB hb
  clear hb
  refine done_ (done_of HT_.out (by kernel_rfl)) ?_
  try go_wp2
  go_ret
  exact ⟨zE, zH⟩
 ·refine startA 32 (S := fun w' => True) (ds := []) trivial (fun hHeld => ?_); refine with_tabW L6InterestAdditive.tab8 L6InterestAdditive.bits8 (fun HT_ HW_ => ?_)
  generalize w15.drew = w16 at O1 B1 B2 B3 B4 B5 B6 HB hHeld ⊢
  refine rcB 0 1 Tryd.func11 (L6awake.calls k  true _ A10.out) hHeld br fun w17 hb hHeld => ?_
  refine pA 1 3 ?_
  refine pA 2 7 ?_
  refine pA 3 15 ?_
  refine pA 4 31 ?_
  refine pA 5 63 ?_
  refine pA 6 127 ?_
  refine pA 7 255 ?_
  refine pA 8 511 ?_
  refine pA 9 1023 ?_
  refine pA 10 2047 ?_
  refine pA 11 4095 ?_
  refine pA 12 8191 ?_
  refine pA 13 16383 ?_
  refine pA 14 32767 ?_
  refine pA 15 65535 ?_
  refine pA 16 131071 ?_
  refine pA 17 262143 ?_
  refine uA 18 524287 ?_
  refine uA 19 1048575 ?_
  refine uA 20 2097151 ?_
  refine uA 21 4194303 ?_
  refine uA 22 8388607 ?_
  refine pA 23 16777215 ?_
  refine pA 24 33554431 ?_
  refine uA 25 67108863 ?_
  refine uA 26 134217727 ?_
  refine uA 27 268435455 ?_
  refine uA 28 536870911 ?_
  refine uA 29 1073741823 ?_
  refine pA 30 2147483647 ?_
  refine pA 31 4294967295 ?_
  replace O1 := rB O1 hb
  replace B1 := bB B1 hb
  replace B2 := bB B2 hb
  replace B3 := bB B3 hb
  replace B4 := bB B4 hb
  replace B5 := bB B5 hb
  replace B6 := bB B6 hb
  replace HB := sB hb
  clear hb
  refine done_ (done_of HT_.out (by kernel_rfl)) ?_
  try go_wp2
  go_ret
  exact ⟨zE, zH⟩
 ·refine startA 32 (S := fun w' => True) (ds := []) trivial (fun hHeld => ?_); refine with_tabW L6InterestAdditive.tab8 L6InterestAdditive.bits8 (fun HT_ HW_ => ?_)
  generalize w15.drew = w16 at O1 B1 B2 B3 B4 B5 B6 HB hHeld ⊢
  refine rcB 0 1 Tryd.func11 (L6awake.calls k  true _ A10.out) hHeld br fun w17 hb hHeld => ?_
  refine pA 1 3 ?_
  refine pA 2 7 ?_
  refine pA 3 15 ?_
  refine pA 4 31 ?_
  refine pA 5 63 ?_
  refine pA 6 127 ?_
  refine pA 7 255 ?_
  refine pA 8 511 ?_
  refine pA 9 1023 ?_
  refine pA 10 2047 ?_
  refine pA 11 4095 ?_
  refine pA 12 8191 ?_
  refine pA 13 16383 ?_
  refine uA 14 32767 ?_
  refine uA 15 65535 ?_
  refine pA 16 131071 ?_
  refine pA 17 262143 ?_
  refine uA 18 524287 ?_
  refine uA 19 1048575 ?_
  refine uA 20 2097151 ?_
  refine uA 21 4194303 ?_
  refine uA 22 8388607 ?_
  refine pA 23 16777215 ?_
  refine pA 24 33554431 ?_
  refine uA 25 67108863 ?_
  refine uA 26 134217727 ?_
  refine uA 27 268435455 ?_
  refine uA 28 536870911 ?_
  refine uA 29 1073741823 ?_
  refine pA 30 2147483647 ?_
  refine pA 31 4294967295 ?_
  replace O1 := rB O1 hb
  replace B1 := bB B1 hb
  replace B2 := bB B2 hb
  replace B3 := bB B3 hb
  replace B4 := bB B4 hb
  replace B5 := bB B5 hb
  replace B6 := bB B6 hb
  replace HB := sB hb
  clear hb
  refine done_ (done_of HT_.out (by kernel_rfl)) ?_
  try go_wp2
  go_ret
  exact ⟨zE, zH⟩
 ·refine startA 32 (S := fun w' => True) (ds := []) trivial (fun hHeld => ?_); refine with_tabW L6InterestAdditive.tab8 L6InterestAdditive.bits8 (fun HT_ HW_ => ?_)
  generalize w15.drew = w16 at O1 B1 B2 B3 B4 B5 B6 HB hHeld ⊢
  refine rcB 0 1 Tryd.func11 (L6awake.calls k  true _ A10.out) hHeld br fun w17 hb hHeld => ?_
  refine pA 1 3 ?_
  refine pA 2 7 ?_
  refine pA 3 15 ?_
  refine pA 4 31 ?_
  refine pA 5 63 ?_
  refine pA 6 127 ?_
  refine pA 7 255 ?_
  refine pA 8 511 ?_
  refine pA 9 1023 ?_
  refine uA 10 2047 ?_
  refine uA 11 4095 ?_
  refine pA 12 8191 ?_
  refine pA 13 16383 ?_
  refine uA 14 32767 ?_
  refine uA 15 65535 ?_
  refine pA 16 131071 ?_
  refine pA 17 262143 ?_
  refine uA 18 524287 ?_
  refine uA 19 1048575 ?_
  refine uA 20 2097151 ?_
  refine uA 21 4194303 ?_
  refine uA 22 8388607 ?_
  refine pA 23 16777215 ?_
  refine pA 24 33554431 ?_
  refine uA 25 67108863 ?_
  refine uA 26 134217727 ?_
  refine uA 27 268435455 ?_
  refine uA 28 536870911 ?_
  refine uA 29 1073741823 ?_
  refine pA 30 2147483647 ?_
  refine pA 31 4294967295 ?_
  replace O1 := rB O1 hb
  replace B1 := bB B1 hb
  replace B2 := bB B2 hb
  replace B3 := bB B3 hb
  replace B4 := bB B4 hb
  replace B5 := bB B5 hb
  replace B6 := bB B6 hb
  replace HB := sB hb
  clear hb
  refine done_ (done_of HT_.out (by kernel_rfl)) ?_
  try go_wp2
  go_ret
  exact ⟨zE, zH⟩
 ·refine startA 32 (S := fun w' => True) (ds := []) trivial (fun hHeld => ?_); refine with_tabW L6InterestAdditive.tab8 L6InterestAdditive.bits8 (fun HT_ HW_ => ?_)
  generalize w15.drew = w16 at O1 B1 B2 B3 B4 B5 B6 HB hHeld ⊢
  refine rcB 0 1 Tryd.func11 (L6awake.calls k  true _ A10.out) hHeld br fun w17 hb hHeld => ?_
  refine pA 1 3 ?_
  refine pA 2 7 ?_
  refine pA 3 15 ?_
  refine pA 4 31 ?_
  refine pA 5 63 ?_
  refine uA 6 127 ?_
  refine uA 7 255 ?_
  refine pA 8 511 ?_
  refine pA 9 1023 ?_
  refine uA 10 2047 ?_
  refine uA 11 4095 ?_
  refine pA 12 8191 ?_
  refine pA 13 16383 ?_
  refine uA 14 32767 ?_
  refine uA 15 65535 ?_
  refine pA 16 131071 ?_
  refine pA 17 262143 ?_
  refine uA 18 524287 ?_
  refine uA 19 1048575 ?_
  refine uA 20 2097151 ?_
  refine uA 21 4194303 ?_
  refine uA 22 8388607 ?_
  refine pA 23 16777215 ?_
  refine pA 24 33554431 ?_
  refine uA 25 67108863 ?_
  refine uA 26 134217727 ?_
  refine uA 27 268435455 ?_
  refine uA 28 536870911 ?_
  refine uA 29 1073741823 ?_
  refine pA 30 2147483647 ?_
  refine pA 31 4294967295 ?_
  replace O1 := rB O1 hb
  replace B1 := bB B1 hb
  replace B2 := bB B2 hb
  replace B3 := bB B3 hb
  replace B4 := bB B4 hb
  replace B5 := bB B5 hb
  replace B6 := bB B6 hb
  replace HB := sB hb
  clear hb
  refine done_ (done_of HT_.out (by kernel_rfl)) ?_
  try go_wp2
  go_ret
  exact ⟨zE, zH⟩
 ·refine startA 32 (S := fun w' => True) (ds := []) trivial (fun hHeld => ?_); refine with_tabW L6InterestAdditive.tab8 L6InterestAdditive.bits8 (fun HT_ HW_ => ?_)
  generalize w15.drew = w16 at O1 B1 B2 B3 B4 B5 B6 HB hHeld ⊢
  refine rcB 0 1 Tryd.func11 (L6awake.calls _ _ _ A10.out) hHeld br fun w17 hb hHeld => ?_
  refine pA 1 3 ?_
  refine uA 2 7 ?_
  refine uA 3 15 ?_
  refine pA 4 31 ?_
  refine pA 5 63 ?_
  refine uA 6 127 ?_
  refine uA 7 255 ?_
  refine pA 8 511 ?_
  refine pA 9 1023 ?_
  refine uA 10 2047 ?_
  refine uA 11 4095 ?_
  refine pA 12 8191 ?_
  refine pA 13 16383 ?_
  refine uA 14 32767 ?_
  refine uA 15 65535 ?_
  refine pA 16 131071 ?_
  refine pA 17 262143 ?_
  refine uA 18 524287 ?_
  refine uA 19 1048575 ?_
  refine uA 20 2097151 ?_
  refine uA 21 4194303 ?_
  refine uA 22 8388607 ?_
  refine pA 23 16777215 ?_
  refine pA 24 33554431 ?_
  refine uA 25 67108863 ?_
  refine uA 26 134217727 ?_
  refine uA 27 268435455 ?_
  refine uA 28 536870911 ?_
  refine uA 29 1073741823 ?_
  refine pA 30 2147483647 ?_
  refine pA 31 4294967295 ?_
  replace O1 := rB O1 hb
  replace B1 := bB B1 hb
  replace B2 := bB B2 hb
  replace B3 := bB B3 hb
  replace B4 := bB B4 hb
  replace B5 := bB B5 hb
  replace B6 := bB B6 hb
  replace HB := sB hb
  clear hb
  refine done_ (done_of HT_.out (by kernel_rfl)) ?_
  try go_wp2
  go_ret
  exact ⟨zE, zH⟩
end Go.Proofs.YtggfilmdfpmbmaaDoor.QN
end
