/-
  Steps and laws behind the statement that the claim's last text proves: the words of the walks, the walks of the Go functions (printed by a program of this session's own, then shortened by one), and what they compute. Conditions: stated at each theorem.
-/
import Derived.Test.YtggfilmdfpmbmaaGreatDoorP9
import Derived.Test.YtggfilmdfpmbmaaGreatDoorP5
import Derived.Test.YtggfilmdfpmbmaaGreatDoorP11
import Derived.Test.YtggfilmdfpmbmaaGreatDoorP12
import Derived.Test.YtggfilmdfpmbmaaGreatDoorP0
import Derived.Test.YtggfilmdfpmbmaaGreatDoorP13
section
namespace Go.Proofs.YtggfilmdfpmbmaaGreatDoor.QN
open Go.RowKit Go.Proofs.YtggfilmdfpmbmaaGreatDoorW.PrintWords Go.Proofs.YtggfilmdfpmbmaaGreatDoorW.PrintLast Go.Proofs.YtggfilmdfpmbmaaGreatDoorW.PrintMore
attribute [local go_sem] max2_int min2_int max_two min_two max_three min_three max_four min_four
set_option linter.unusedVariables false
set_option linter.unusedSimpArgs false
attribute [local go_sem high] eqA23
def L6awake.f (k : Nat)  : Option (Bool) := (L0Ratio.f k 1 10).bind fun bt858 => ((some (([(⟨0, (⟨bt858.1, bt858.2.1, bt858.2.2⟩ : S23)⟩ : S29)] : List (S29)) : List (S29))).bind fun y861 => ((L0Whole.f k 36500).bind fun bt864 => ((I1Simple.f k bt864.1 bt864.2.1 bt864.2.2 y861 10 40 365).bind fun bt868 => ((I1Compound.f k bt864.1 bt864.2.1 bt864.2.2 y861 10 40 365 15).bind fun bt873 => (if bt868.2.2.2 = 0 then ((L0Whole.f k 300).bind fun bt878 => (if (bt868.1 == bt878.1 && (bt868.2.1.toList == bt878.2.1.toList && (bt868.2.2.1.toList == bt878.2.2.toList))) = true then (if bt873.2.2.2 = 0 then ((L0Ratio.f k 21945 73).bind fun bt881 => (some (bt873.1 == bt881.1 && (bt873.2.1.toList == bt881.2.1.toList && (bt873.2.2.1.toList == bt881.2.2.toList))))) else (some false)) else (some false))) else (some false))))))
def L6awake.T5 : Bool × List (List Nat × List Nat) := (true, [([], []), ([0], [0]), ([1], [1]), ([2], [2]), ([2, 2], [2]), ([3, 4, 2], [2, 3, 4]), ([2, 5], [2, 5]), ([6, 4], [6]), ([7], [7]), ([8, 7], [7, 8]), ([7, 9], [7, 9]), ([10, 7], [10]), ([11], [11]), ([11, 11], [11]), ([12, 13, 11], [11, 12, 13]), ([11, 14], [11, 14]), ([15, 13, 0, 1, 2, 3, 4, 5, 6, 7, 8, 9, 10, 11, 12, 13, 14, 15], [15])])
def L6awake.B5 : List Nat := [0, 1, 3, 7, 7, 31, 63, 127, 255, 511, 1023, 2047, 4095, 4095, 16383, 32767, 65535]
theorem L6awake.tab5 : rtab .any (opsOf Tryz.f7 5) = L6awake.T5 := by kernel_rfl
theorem L6awake.bits5 : waitsOk L6awake.T5.2 L6awake.B5 = true := by kernel_rfl
set_option maxHeartbeats 8000000 in
set_option maxRecDepth 100000 in
theorem L6awake.calls (k : Nat)  (r : Bool) (w : World) (H : L6awake.f k  = some r) :
 Calls Tryz.prog 7 #[] w fun e w' => e = .returned (.bool r) ∧ Below w.heap.size w w' := by
 have hu1 := Tryz.underlying29
 have hu2 := Tryz.underlying23
 have HB := Aside0.mk (Below.refl w.heap.size w)
 unfold L6awake.f at H
 replace ⟨⟨t1, t2, t3⟩, A1, H⟩ := bS H
 (try dsimp only at H)
 replace ⟨y1, Y1, H⟩ := bY H
 replace ⟨⟨t4, t5, t6⟩, A2, H⟩ := bS H
 (try dsimp only at H)
 replace ⟨⟨t7, t8, t9, t10⟩, A3, H⟩ := bS H
 (try dsimp only at H)
 replace ⟨⟨t11, t12, t13, t14⟩, A4, H⟩ := bS H
 (try dsimp only at H)
 replace H := iQ H
 rcases H with ⟨c1b0, c1b1, H⟩ | ⟨c1b0, c1b1, H⟩
 ·replace ⟨⟨t15, t16, t17⟩, A5, H⟩ := bS H
  (try dsimp only at H)
  by_cases c2 : (t7 == t15 && (t8.toList == t16.toList && (t9.toList == t17.toList))) = true
  ·rw [if_pos c2] at H
   have c2b0 : (t7 == t15 && (t8.toList == t16.toList && (t9.toList == t17.toList))) = true := c2
   (try (have c2b1 : decide (t7 = t15 && (t8.toList == t16.toList && (t9.toList == t17.toList))) = true := by simpa using c2))
   (try (have c2b2 : (t7 == t15 && (t8.toList == t16.toList && (t9.toList == t17.toList))) = true := by simpa using c2))
   clear c2
   replace H := iQ H
   rcases H with ⟨c3b0, c3b1, H⟩ | ⟨c3b0, c3b1, H⟩
   ·replace ⟨⟨t18, t19, t20⟩, A6, H⟩ := bS H
    (try dsimp only at H)
    obtain rfl := sI H
    go_enter Tryz.func7, Tryz.ntmps7
    try go_wp2_with (first | (refine gB 7 Tryz.func13 (L0Ratio.calls _ _ _ _ _ _ _ A1.out) fun w1 hb HB => ?_; clear hb) | ((with_reducible refine gate_dst (N := 9) rfl ?_); refine Kd.R_lit k29 _ 29 ?hg (N := 9) ?hd (xs := ([(⟨0, (⟨t1, t2, t3⟩ : S23)⟩ : S29)] : List (S29))) (inner := [.int .i64 0, .bool t1, .string t2, .string t3]) (ok := fun _ => True) (okp := fun _ => True) ?hr ?hp (fun _ hk => hk) trivial (Below.refl _ _) (Nat.le_refl _) (by simp) ?_; (case hd => rfl); (case hg => rfl); (case hr => first | (go_simp; done) | (go_simp; rfl)); (case hp => exact (Reps.c4 (show Kd.M k29 _ _ _ (⟨0, (⟨t1, t2, t3⟩ : S23)⟩ : S29) [.int .i64 0, .bool t1, .string t2, .string t3] from (k29_mkM _ _ _ (⟨0, (⟨t1, t2, t3⟩ : S23)⟩ : S29) )) (Reps.none _ _))); intro v1 w2 ho12 hb hg_ hnew_; clear hg_ hnew_; (first | rw [← Y1.out] at ho12 | (simp only [Int.reduceToNat] at ho12; rw [← Y1.out] at ho12)); have O1 := Aside0.mk (Kd.R_lower ho12 (below_size zH)); replace HB := sB hb; clear hb ho12) | (refine gB 10 Tryz.func14 (L0Whole.calls _ _ _ _ _ _ A2.out) fun w3 hb HB => ?_; replace O1 := rB O1 hb; clear hb) | (refine bxZ w 2 23 fun g1 w4 B1 G1 hg hb HB => ?_; replace O1 := rB O1 hb; clear hb hg; obtain ⟨_, _, _, _, _, _⟩ := xB3 B1; obtain ⟨P1, d1, u1⟩ := Kd.R_slice O1.out; subst u1) | (refine gB 14 Tryz.func15 (I1Simple.calls _ _ _ _ _ _ _ _ _ _ _ _ _ _ _ ?side1 ?side2 A3.out) fun w5 hb _ => ?_; (case side1 => refine (Kd.R_reads' (e := 29) (base := w.heap.size) (ok := fun k_ => True) (n := y1.length) (c := d1) ?_).2.2; exact zq18); (case side2 => exact (Kd.R_reads' O1.out).2.1); replace O1 := Aside0.mk (Kd.R_below zq18 hb); replace B1 := bV B1 hb; replace HB := sB hb; (try clear hb)) | (refine bxZ w 3 23 fun g2 w6 B2 G2 hg hb HB => ?_; obtain ⟨N1, N2⟩ := nP B1 hg; replace O1 := rB O1 hb; replace B1 := bB B1 hb; clear hb hg; have m1 := N2; have n1 := N1; obtain ⟨_, _, _, _, _, _⟩ := xB3 B2; obtain ⟨_, _, _, _, _, _⟩ := xB3 B1) | (refine gB 20 Tryz.func9 (I1Compound.calls _ _ _ _ _ _ _ _ _ _ _ _ _ _ _ _ ?side1 ?side2 A4.out) fun w7 hb _ => ?_; (case side1 => refine (Kd.R_reads' (e := 29) (base := w.heap.size) (ok := fun k_ => True) (n := y1.length) (c := d1) ?_).2.2; exact zq19); (case side2 => exact (Kd.R_reads' O1.out).2.1); replace O1 := Aside0.mk (Kd.R_below zq19 hb); replace B1 := bV B1 hb; replace B2 := bV B2 hb; replace HB := sB hb; (try clear hb)) | (refine bxZ w 5 23 fun g3 w8 B3 G3 hg hb HB => ?_; obtain ⟨N3, N4⟩ := nP B1 hg; obtain ⟨N5, N6⟩ := nP B2 hg; replace O1 := rB O1 hb; replace B1 := bB B1 hb; replace B2 := bB B2 hb; clear hb hg; have m2 := N4; have n2 := N3; have m3 := N6; have n3 := N5; obtain ⟨_, _, _, _, _, _⟩ := xB3 B3))
    generalize hW_ : (((w8.setCell ⟨g3, 0, none⟩ (.bool t11)).setCell ⟨g3, 1, none⟩ (.string t12)).setCell ⟨g3, 2, none⟩ (.string t13)) = w9
    replace O1 : Aside0 (Kd.R k29 29 w9 w.heap.size (fun _ => True) (.slice P1 y1.length d1) y1) := ⟨zq46⟩
    replace B1 : Aside0 (w9.heap[g1]? = some (.cells #[.bool t4, .string t5, .string t6] 23 (0, 0))) := bG hW_ B1
    replace B2 : Aside0 (w9.heap[g2]? = some (.cells #[.bool t7, .string t8, .string t9] 23 (0, 0))) := bG hW_ B2
    replace B3 : Aside0 (w9.heap[g3]? = some (.cells #[.bool t11, .string t12, .string t13] 23 (0, 0))) := bG hW_ B3
    replace HB := hG hW_
    clear hW_
    replace O1 := rD O1
    replace B1 := bD B1
    replace B2 := bD B2
    replace B3 := bD B3
    replace HB := hD HB
    refine startC2 17 [] B2 B3 (fun hHeld => ?_); refine with_tabW L6awake.tab5 L6awake.bits5 (fun HT_ HW_ => ?_)
    generalize w9.drew = w10 at O1 B1 B2 B3 HB hHeld ⊢
    refine pA 0 1 ?_
    refine pA 1 3 ?_
    refine pA 2 7 ?_
    refine tA 3 15 hHeld ?_
    refine rcB 4 31 Tryz.func14 (L0Whole.calls _ _ _ _ _ _ A5.out) hHeld br fun w11 hb hHeld => ?_
    refine pA 5 63 ?_
    refine pA 6 127 ?_
    refine pA 7 255 ?_
    refine pA 8 511 ?_
    refine pA 9 1023 ?_
    refine pA 10 2047 ?_
    refine pA 11 4095 ?_
    refine tA 12 8191 hHeld ?_
    refine rcB 13 16383 Tryz.func13 (L0Ratio.calls _ _ _ _ _ _ _ A6.out) hHeld hb fun w12 hb hHeld => ?_
    refine pA 14 32767 ?_
    refine pA 15 65535 ?_
    refine pA 16 131071 ?_
    replace O1 := rB O1 hb
    replace B1 := bB B1 hb
    replace B2 := bB B2 hb
    replace B3 := bB B3 hb
    replace HB := sB hb
    clear hb
    refine done_ (done_of HT_.out (by kernel_rfl)) ?_
    try go_wp2
    go_ret
    exact ⟨zE, zH⟩
   ·obtain rfl := sI H
    go_enter Tryz.func7, Tryz.ntmps7
    try go_wp2_with (first | (refine gB 7 Tryz.func13 (L0Ratio.calls _ _ _ _ _ _ _ A1.out) fun w1 hb HB => ?_; clear hb) | ((with_reducible refine gate_dst (N := 9) rfl ?_); refine Kd.R_lit k29 _ 29 ?hg (N := 9) ?hd (xs := ([(⟨0, (⟨t1, t2, t3⟩ : S23)⟩ : S29)] : List (S29))) (inner := [.int .i64 0, .bool t1, .string t2, .string t3]) (ok := fun _ => True) (okp := fun _ => True) ?hr ?hp (fun _ hk => hk) trivial (Below.refl _ _) (Nat.le_refl _) (by simp) ?_; (case hd => rfl); (case hg => rfl); (case hr => first | (go_simp; done) | (go_simp; rfl)); (case hp => exact (Reps.c4 (show Kd.M k29 _ _ _ (⟨0, (⟨t1, t2, t3⟩ : S23)⟩ : S29) [.int .i64 0, .bool t1, .string t2, .string t3] from (k29_mkM _ _ _ (⟨0, (⟨t1, t2, t3⟩ : S23)⟩ : S29) )) (Reps.none _ _))); intro v1 w2 ho33 hb hg_ hnew_; clear hg_ hnew_; (first | rw [← Y1.out] at ho33 | (simp only [Int.reduceToNat] at ho33; rw [← Y1.out] at ho33)); have O1 := Aside0.mk (Kd.R_lower ho33 (below_size zH)); replace HB := sB hb; clear hb ho33) | (refine gB 10 Tryz.func14 (L0Whole.calls _ _ _ _ _ _ A2.out) fun w3 hb HB => ?_; replace O1 := rB O1 hb; clear hb) | (refine bxZ w 2 23 fun g1 w4 B1 G1 hg hb HB => ?_; replace O1 := rB O1 hb; clear hb hg; obtain ⟨_, _, _, _, _, _⟩ := xB3 B1; obtain ⟨P1, d1, u1⟩ := Kd.R_slice O1.out; subst u1) | (refine gB 14 Tryz.func15 (I1Simple.calls _ _ _ _ _ _ _ _ _ _ _ _ _ _ _ ?side1 ?side2 A3.out) fun w5 hb _ => ?_; (case side1 => refine (Kd.R_reads' (e := 29) (base := w.heap.size) (ok := fun k_ => True) (n := y1.length) (c := d1) ?_).2.2; exact zq18); (case side2 => exact (Kd.R_reads' O1.out).2.1); replace O1 := Aside0.mk (Kd.R_below zq18 hb); replace B1 := bV B1 hb; replace HB := sB hb; (try clear hb)) | (refine bxZ w 3 23 fun g2 w6 B2 G2 hg hb HB => ?_; obtain ⟨N1, N2⟩ := nP B1 hg; replace O1 := rB O1 hb; replace B1 := bB B1 hb; clear hb hg; have m1 := N2; have n1 := N1; obtain ⟨_, _, _, _, _, _⟩ := xB3 B2; obtain ⟨_, _, _, _, _, _⟩ := xB3 B1) | (refine gB 20 Tryz.func9 (I1Compound.calls _ _ _ _ _ _ _ _ _ _ _ _ _ _ _ _ ?side1 ?side2 A4.out) fun w7 hb _ => ?_; (case side1 => refine (Kd.R_reads' (e := 29) (base := w.heap.size) (ok := fun k_ => True) (n := y1.length) (c := d1) ?_).2.2; exact zq19); (case side2 => exact (Kd.R_reads' O1.out).2.1); replace O1 := Aside0.mk (Kd.R_below zq19 hb); replace B1 := bV B1 hb; replace B2 := bV B2 hb; replace HB := sB hb; (try clear hb)) | (refine bxZ w 5 23 fun g3 w8 B3 G3 hg hb HB => ?_; obtain ⟨N3, N4⟩ := nP B1 hg; obtain ⟨N5, N6⟩ := nP B2 hg; replace O1 := rB O1 hb; replace B1 := bB B1 hb; replace B2 := bB B2 hb; clear hb hg; have m2 := N4; have n2 := N3; have m3 := N6; have n3 := N5; obtain ⟨_, _, _, _, _, _⟩ := xB3 B3))
    generalize hW_ : (((w8.setCell ⟨g3, 0, none⟩ (.bool t11)).setCell ⟨g3, 1, none⟩ (.string t12)).setCell ⟨g3, 2, none⟩ (.string t13)) = w9
    replace O1 : Aside0 (Kd.R k29 29 w9 w.heap.size (fun _ => True) (.slice P1 y1.length d1) y1) := ⟨zq46⟩
    replace B1 : Aside0 (w9.heap[g1]? = some (.cells #[.bool t4, .string t5, .string t6] 23 (0, 0))) := bG hW_ B1
    replace B2 : Aside0 (w9.heap[g2]? = some (.cells #[.bool t7, .string t8, .string t9] 23 (0, 0))) := bG hW_ B2
    replace B3 : Aside0 (w9.heap[g3]? = some (.cells #[.bool t11, .string t12, .string t13] 23 (0, 0))) := bG hW_ B3
    replace HB := hG hW_
    clear hW_
    replace O1 := rD O1
    replace B1 := bD B1
    replace B2 := bD B2
    replace B3 := bD B3
    replace HB := hD HB
    refine startC1 17 [] B2 (fun hHeld => ?_); refine with_tabW L6awake.tab5 L6awake.bits5 (fun HT_ HW_ => ?_)
    generalize w9.drew = w10 at O1 B1 B2 B3 HB hHeld ⊢
    refine pA 0 1 ?_
    refine pA 1 3 ?_
    refine pA 2 7 ?_
    refine tA 3 15 hHeld ?_
    refine rcB 4 31 Tryz.func14 (L0Whole.calls _ _ _ _ _ _ A5.out) hHeld br fun w11 hb hHeld => ?_
    refine pA 5 63 ?_
    refine pA 6 127 ?_
    refine pA 7 255 ?_
    refine pA 8 511 ?_
    refine pA 9 1023 ?_
    refine pA 10 2047 ?_
    refine pA 11 4095 ?_
    refine uA 12 8191 ?_
    refine uA 13 16383 ?_
    refine uA 14 32767 ?_
    refine pA 15 65535 ?_
    refine pA 16 131071 ?_
    replace O1 := rB O1 hb
    replace B1 := bB B1 hb
    replace B2 := bB B2 hb
    replace B3 := bB B3 hb
    replace HB := sB hb
    clear hb
    refine done_ (done_of HT_.out (by kernel_rfl)) ?_
    try go_wp2
    go_ret
    exact ⟨zE, zH⟩
  ·rw [if_neg c2] at H
   have c2b0 : (t7 == t15 && (t8.toList == t16.toList && (t9.toList == t17.toList))) = false := by simpa using c2
   (try (have c2b1 : decide (t7 = t15 && (t8.toList == t16.toList && (t9.toList == t17.toList))) = false := by simpa using c2))
   (try (have c2b2 : (t7 == t15 && (t8.toList == t16.toList && (t9.toList == t17.toList))) = false := by simpa using c2))
   (try (have c2b3 : ¬ (t7 = t15 && (t8.toList == t16.toList && (t9.toList == t17.toList))) := by simpa using c2))
   clear c2
   obtain rfl := sI H
   go_enter Tryz.func7, Tryz.ntmps7
   try go_wp2_with (first | (refine gB 7 Tryz.func13 (L0Ratio.calls _ _ _ _ _ _ _ A1.out) fun w1 hb HB => ?_; clear hb) | ((with_reducible refine gate_dst (N := 9) rfl ?_); refine Kd.R_lit k29 _ 29 ?hg (N := 9) ?hd (xs := ([(⟨0, (⟨t1, t2, t3⟩ : S23)⟩ : S29)] : List (S29))) (inner := [.int .i64 0, .bool t1, .string t2, .string t3]) (ok := fun _ => True) (okp := fun _ => True) ?hr ?hp (fun _ hk => hk) trivial (Below.refl _ _) (Nat.le_refl _) (by simp) ?_; (case hd => rfl); (case hg => rfl); (case hr => first | (go_simp; done) | (go_simp; rfl)); (case hp => exact (Reps.c4 (show Kd.M k29 _ _ _ (⟨0, (⟨t1, t2, t3⟩ : S23)⟩ : S29) [.int .i64 0, .bool t1, .string t2, .string t3] from (k29_mkM _ _ _ (⟨0, (⟨t1, t2, t3⟩ : S23)⟩ : S29) )) (Reps.none _ _))); intro v1 w2 ho53 hb hg_ hnew_; clear hg_ hnew_; (first | rw [← Y1.out] at ho53 | (simp only [Int.reduceToNat] at ho53; rw [← Y1.out] at ho53)); have O1 := Aside0.mk (Kd.R_lower ho53 (below_size zH)); replace HB := sB hb; clear hb ho53) | (refine gB 10 Tryz.func14 (L0Whole.calls _ _ _ _ _ _ A2.out) fun w3 hb HB => ?_; replace O1 := rB O1 hb; clear hb) | (refine bxZ w 2 23 fun g1 w4 B1 G1 hg hb HB => ?_; replace O1 := rB O1 hb; clear hb hg; obtain ⟨_, _, _, _, _, _⟩ := xB3 B1; obtain ⟨P1, d1, u1⟩ := Kd.R_slice O1.out; subst u1) | (refine gB 14 Tryz.func15 (I1Simple.calls _ _ _ _ _ _ _ _ _ _ _ _ _ _ _ ?side1 ?side2 A3.out) fun w5 hb _ => ?_; (case side1 => refine (Kd.R_reads' (e := 29) (base := w.heap.size) (ok := fun k_ => True) (n := y1.length) (c := d1) ?_).2.2; exact zq18); (case side2 => exact (Kd.R_reads' O1.out).2.1); replace O1 := Aside0.mk (Kd.R_below zq18 hb); replace B1 := bV B1 hb; replace HB := sB hb; (try clear hb)) | (refine bxZ w 3 23 fun g2 w6 B2 G2 hg hb HB => ?_; obtain ⟨N1, N2⟩ := nP B1 hg; replace O1 := rB O1 hb; replace B1 := bB B1 hb; clear hb hg; have m1 := N2; have n1 := N1; obtain ⟨_, _, _, _, _, _⟩ := xB3 B2; obtain ⟨_, _, _, _, _, _⟩ := xB3 B1) | (refine gB 20 Tryz.func9 (I1Compound.calls _ _ _ _ _ _ _ _ _ _ _ _ _ _ _ _ ?side1 ?side2 A4.out) fun w7 hb _ => ?_; (case side1 => refine (Kd.R_reads' (e := 29) (base := w.heap.size) (ok := fun k_ => True) (n := y1.length) (c := d1) ?_).2.2; exact zq19); (case side2 => exact (Kd.R_reads' O1.out).2.1); replace O1 := Aside0.mk (Kd.R_below zq19 hb); replace B1 := bV B1 hb; replace B2 := bV B2 hb; replace HB := sB hb; (try clear hb)) | (refine bxZ w 5 23 fun g3 w8 B3 G3 hg hb HB => ?_; obtain ⟨N3, N4⟩ := nP B1 hg; obtain ⟨N5, N6⟩ := nP B2 hg; replace O1 := rB O1 hb; replace B1 := bB B1 hb; replace B2 := bB B2 hb; clear hb hg; have m2 := N4; have n2 := N3; have m3 := N6; have n3 := N5; obtain ⟨_, _, _, _, _, _⟩ := xB3 B3))
   generalize hW_ : (((w8.setCell ⟨g3, 0, none⟩ (.bool t11)).setCell ⟨g3, 1, none⟩ (.string t12)).setCell ⟨g3, 2, none⟩ (.string t13)) = w9
   replace O1 : Aside0 (Kd.R k29 29 w9 w.heap.size (fun _ => True) (.slice P1 y1.length d1) y1) := ⟨zq46⟩
   replace B1 : Aside0 (w9.heap[g1]? = some (.cells #[.bool t4, .string t5, .string t6] 23 (0, 0))) := bG hW_ B1
   replace B2 : Aside0 (w9.heap[g2]? = some (.cells #[.bool t7, .string t8, .string t9] 23 (0, 0))) := bG hW_ B2
   replace B3 : Aside0 (w9.heap[g3]? = some (.cells #[.bool t11, .string t12, .string t13] 23 (0, 0))) := bG hW_ B3
   replace HB := hG hW_
   clear hW_
   replace O1 := rD O1
   replace B1 := bD B1
   replace B2 := bD B2
   replace B3 := bD B3
   replace HB := hD HB
   refine startC1 17 [] B2 (fun hHeld => ?_); refine with_tabW L6awake.tab5 L6awake.bits5 (fun HT_ HW_ => ?_)
   generalize w9.drew = w10 at O1 B1 B2 B3 HB hHeld ⊢
   refine pA 0 1 ?_
   refine pA 1 3 ?_
   refine pA 2 7 ?_
   refine tA 3 15 hHeld ?_
   refine rcB 4 31 Tryz.func14 (L0Whole.calls _ _ _ _ _ _ A5.out) hHeld br fun w11 hb hHeld => ?_
   refine pA 5 63 ?_
   refine pA 6 127 ?_
   refine pA 7 255 ?_
   refine uA 8 511 ?_
   refine uA 9 1023 ?_
   refine pA 10 2047 ?_
   refine pA 11 4095 ?_
   refine uA 12 8191 ?_
   refine uA 13 16383 ?_
   refine uA 14 32767 ?_
   refine pA 15 65535 ?_
   refine pA 16 131071 ?_
   replace O1 := rB O1 hb
   replace B1 := bB B1 hb
   replace B2 := bB B2 hb
   replace B3 := bB B3 hb
   replace HB := sB hb
   clear hb
   refine done_ (done_of HT_.out (by kernel_rfl)) ?_
   try go_wp2
   go_ret
   exact ⟨zE, zH⟩
 ·obtain rfl := sI H
  go_enter Tryz.func7, Tryz.ntmps7
  try go_wp2_with (first | (refine gB 7 Tryz.func13 (L0Ratio.calls _ _ _ _ _ _ _ A1.out) fun w1 hb HB => ?_; clear hb) | ((with_reducible refine gate_dst (N := 9) rfl ?_); refine Kd.R_lit k29 _ 29 ?hg (N := 9) ?hd (xs := ([(⟨0, (⟨t1, t2, t3⟩ : S23)⟩ : S29)] : List (S29))) (inner := [.int .i64 0, .bool t1, .string t2, .string t3]) (ok := fun _ => True) (okp := fun _ => True) ?hr ?hp (fun _ hk => hk) trivial (Below.refl _ _) (Nat.le_refl _) (by simp) ?_; (case hd => rfl); (case hg => rfl); (case hr => first | (go_simp; done) | (go_simp; rfl)); (case hp => exact (Reps.c4 (show Kd.M k29 _ _ _ (⟨0, (⟨t1, t2, t3⟩ : S23)⟩ : S29) [.int .i64 0, .bool t1, .string t2, .string t3] from (k29_mkM _ _ _ (⟨0, (⟨t1, t2, t3⟩ : S23)⟩ : S29) )) (Reps.none _ _))); intro v1 w2 ho73 hb hg_ hnew_; clear hg_ hnew_; (first | rw [← Y1.out] at ho73 | (simp only [Int.reduceToNat] at ho73; rw [← Y1.out] at ho73)); have O1 := Aside0.mk (Kd.R_lower ho73 (below_size zH)); replace HB := sB hb; clear hb ho73) | (refine gB 10 Tryz.func14 (L0Whole.calls _ _ _ _ _ _ A2.out) fun w3 hb HB => ?_; replace O1 := rB O1 hb; clear hb) | (refine bxZ w 2 23 fun g1 w4 B1 G1 hg hb HB => ?_; replace O1 := rB O1 hb; clear hb hg; obtain ⟨_, _, _, _, _, _⟩ := xB3 B1; obtain ⟨P1, d1, u1⟩ := Kd.R_slice O1.out; subst u1) | (refine gB 14 Tryz.func15 (I1Simple.calls _ _ _ _ _ _ _ _ _ _ _ _ _ _ _ ?side1 ?side2 A3.out) fun w5 hb _ => ?_; (case side1 => refine (Kd.R_reads' (e := 29) (base := w.heap.size) (ok := fun k_ => True) (n := y1.length) (c := d1) ?_).2.2; exact zq18); (case side2 => exact (Kd.R_reads' O1.out).2.1); replace O1 := Aside0.mk (Kd.R_below zq18 hb); replace B1 := bV B1 hb; replace HB := sB hb; (try clear hb)) | (refine bxZ w 3 23 fun g2 w6 B2 G2 hg hb HB => ?_; obtain ⟨N1, N2⟩ := nP B1 hg; replace O1 := rB O1 hb; replace B1 := bB B1 hb; clear hb hg; have m1 := N2; have n1 := N1; obtain ⟨_, _, _, _, _, _⟩ := xB3 B2; obtain ⟨_, _, _, _, _, _⟩ := xB3 B1) | (refine gB 20 Tryz.func9 (I1Compound.calls _ _ _ _ _ _ _ _ _ _ _ _ _ _ _ _ ?side1 ?side2 A4.out) fun w7 hb _ => ?_; (case side1 => refine (Kd.R_reads' (e := 29) (base := w.heap.size) (ok := fun k_ => True) (n := y1.length) (c := d1) ?_).2.2; exact zq19); (case side2 => exact (Kd.R_reads' O1.out).2.1); replace O1 := Aside0.mk (Kd.R_below zq19 hb); replace B1 := bV B1 hb; replace B2 := bV B2 hb; replace HB := sB hb; (try clear hb)) | (refine bxZ w 5 23 fun g3 w8 B3 G3 hg hb HB => ?_; obtain ⟨N3, N4⟩ := nP B1 hg; obtain ⟨N5, N6⟩ := nP B2 hg; replace O1 := rB O1 hb; replace B1 := bB B1 hb; replace B2 := bB B2 hb; clear hb hg; have m2 := N4; have n2 := N3; have m3 := N6; have n3 := N5; obtain ⟨_, _, _, _, _, _⟩ := xB3 B3))
  generalize hW_ : (((w8.setCell ⟨g3, 0, none⟩ (.bool t11)).setCell ⟨g3, 1, none⟩ (.string t12)).setCell ⟨g3, 2, none⟩ (.string t13)) = w9
  replace O1 : Aside0 (Kd.R k29 29 w9 w.heap.size (fun _ => True) (.slice P1 y1.length d1) y1) := ⟨zq46⟩
  replace B1 : Aside0 (w9.heap[g1]? = some (.cells #[.bool t4, .string t5, .string t6] 23 (0, 0))) := bG hW_ B1
  replace B2 : Aside0 (w9.heap[g2]? = some (.cells #[.bool t7, .string t8, .string t9] 23 (0, 0))) := bG hW_ B2
  replace B3 : Aside0 (w9.heap[g3]? = some (.cells #[.bool t11, .string t12, .string t13] 23 (0, 0))) := bG hW_ B3
  replace HB := hG hW_
  clear hW_
  replace O1 := rD O1
  replace B1 := bD B1
  replace B2 := bD B2
  replace B3 := bD B3
  replace HB := hD HB
  refine startA 17 (S := fun w' => True) (ds := []) trivial (fun hHeld => ?_); refine with_tabW L6awake.tab5 L6awake.bits5 (fun HT_ HW_ => ?_)
  generalize w9.drew = w10 at O1 B1 B2 B3 HB hHeld ⊢
  refine pA 0 1 ?_
  refine pA 1 3 ?_
  refine pA 2 7 ?_
  refine uA 3 15 ?_
  refine uA 4 31 ?_
  refine uA 5 63 ?_
  refine pA 6 127 ?_
  refine pA 7 255 ?_
  refine uA 8 511 ?_
  refine uA 9 1023 ?_
  refine pA 10 2047 ?_
  refine pA 11 4095 ?_
  refine uA 12 8191 ?_
  refine uA 13 16383 ?_
  refine uA 14 32767 ?_
  refine pA 15 65535 ?_
  refine pA 16 131071 ?_
  refine done_ (done_of HT_.out (by kernel_rfl)) ?_
  try go_wp2
  go_ret
  exact ⟨zE, zH⟩
end Go.Proofs.YtggfilmdfpmbmaaGreatDoor.QN
end
section
namespace Go.Proofs.YtggfilmdfpmbmaaGreatDoor.QN
open Go.RowKit Go.Proofs.YtggfilmdfpmbmaaGreatDoorW.PrintWords Go.Proofs.YtggfilmdfpmbmaaGreatDoorW.PrintLast Go.Proofs.YtggfilmdfpmbmaaGreatDoorW.PrintMore
attribute [local go_sem] max2_int min2_int max_two min_two max_three min_three max_four min_four
set_option linter.unusedVariables false
set_option linter.unusedSimpArgs false
attribute [local go_sem high] eqA23
set_option maxHeartbeats 8000000
set_option maxRecDepth 100000
def R1Opposite.f (a0_0 : Bool) (a0_1 a0_2 : ByteArray) : Option (Bool × ByteArray × ByteArray) := if a0_1.toList = ([] : List UInt8) then (some (a0_0, a0_1, a0_2)) else (some (!a0_0, a0_1, a0_2))
theorem R1Opposite.calls (a0_0 : Bool) (a0_1 a0_2 : ByteArray) (r1 : Bool) (r2 r3 : ByteArray) (w : World) (H : R1Opposite.f a0_0 a0_1 a0_2 = some (r1, r2, r3)) :
 Calls Tryz.prog 54 #[.agg #[.bool a0_0, .string a0_1, .string a0_2]] w fun e w' => e = .returned (.agg #[.bool r1, .string r2, .string r3]) ∧ Below w.heap.size w w' := by
 have hu1 := Tryz.underlying23
 have HB := Aside0.mk (Below.refl w.heap.size w)
 unfold R1Opposite.f at H
 replace H := iQ H
 rcases H with ⟨c1b0, c1b1, H⟩ | ⟨c1b0, c1b1, H⟩
 simp only [Option.some.injEq, Prod.mk.injEq] at H
 obtain ⟨rfl, rfl, rfl⟩ := H
 rotate_left
 simp only [Option.some.injEq, Prod.mk.injEq] at H
 obtain ⟨rfl, rfl, rfl⟩ := H
 rotate_left
 all_goals
  go_enter Tryz.func54, Tryz.ntmps54
  go_wp2_with (first | (refine bxA w 1 #[.bool a0_0, .string a0_1, .string a0_2] 23 fun g1 w1 B1 G1 hg hb HB => ?_; clear hb hg) | (refine bxZ w 2 23 fun g2 w2 B2 G2 hg hb HB => ?_; obtain ⟨N1, N2⟩ := nP B1 hg; replace B1 := bB B1 hb; clear hb hg; have m1 := N1; have n1 := N2; obtain ⟨_, _, _, _, _, _⟩ := xB3 B1; obtain ⟨_, _, _, _, _, _⟩ := xB3 B2))
 ·refine pR 23 #[.bool a0_0, .string a0_1, .string a0_2] B2 Tryz.underlying23 ?_
  exact ⟨zE, zH⟩
 ·refine pR 23 #[.bool (!a0_0), .string a0_1, .string a0_2] B2 Tryz.underlying23 ?_
  exact ⟨zE, zH⟩
def R1Minus.f (k : Nat) (a0_0 : Bool) (a0_1 a0_2 : ByteArray) (a1_0 : Bool) (a1_1 a1_2 : ByteArray) : Option (Bool × ByteArray × ByteArray) := (R1Opposite.f a1_0 a1_1 a1_2).bind fun bt918 => ((R1Plus.f k a0_0 a0_1 a0_2 bt918.1 bt918.2.1 bt918.2.2).bind fun bt921 => (some (bt921.1, bt921.2.1, bt921.2.2)))
theorem R1Minus.calls (k : Nat) (a0_0 : Bool) (a0_1 a0_2 : ByteArray) (a1_0 : Bool) (a1_1 a1_2 : ByteArray) (r1 : Bool) (r2 r3 : ByteArray) (w : World) (H : R1Minus.f k a0_0 a0_1 a0_2 a1_0 a1_1 a1_2 = some (r1, r2, r3)) :
 Calls Tryz.prog 28 #[.agg #[.bool a0_0, .string a0_1, .string a0_2], .agg #[.bool a1_0, .string a1_1, .string a1_2]] w fun e w' => e = .returned (.agg #[.bool r1, .string r2, .string r3]) ∧ Below w.heap.size w w' := by
 have hu1 := Tryz.underlying23
 have HB := Aside0.mk (Below.refl w.heap.size w)
 unfold R1Minus.f at H
 replace ⟨⟨t1, t2, t3⟩, A1, H⟩ := bS H
 (try dsimp only at H)
 replace ⟨⟨t4, t5, t6⟩, A2, H⟩ := bS H
 (try dsimp only at H)
 simp only [Option.some.injEq, Prod.mk.injEq] at H
 obtain ⟨rfl, rfl, rfl⟩ := H
 go_enter Tryz.func28, Tryz.ntmps28
 try go_wp2_with (first | (refine bxA w 2 #[.bool a0_0, .string a0_1, .string a0_2] 23 fun g1 w2 B1 G1 hg hb HB => ?_; clear hb hg) | (refine bxA w 3 #[.bool a1_0, .string a1_1, .string a1_2] 23 fun g2 w3 B2 G2 hg hb HB => ?_; obtain ⟨N1, N2⟩ := nP B1 hg; replace B1 := bB B1 hb; clear hb hg) | (refine bxZ w 4 23 fun g3 w4 B3 G3 hg hb HB => ?_; obtain ⟨N3, N4⟩ := nP B1 hg; obtain ⟨N5, N6⟩ := nP B2 hg; replace B1 := bB B1 hb; replace B2 := bB B2 hb; clear hb hg))
 replace B1 := bD B1
 replace B2 := bD B2
 replace B3 := bD B3
 replace HB := hD HB
 refine startC2 5 [] B1 B2 (fun hHeld => ?_)
 generalize w4.drew = w5 at B1 B2 B3 HB hHeld ⊢
 refine takeAk 0 5 (lB 5 1) rfl rfl hHeld ?_
 refine takeAk 1 6 (lB 5 3) rfl rfl hHeld ?_
 refine rcBk 2 7 Tryz.func54 (R1Opposite.calls _ _ _ _ _ _ _ A1.out) hHeld br fun w6 hb hHeld => ?_
 refine rcBk 3 15 Tryz.func23 (R1Plus.calls _ _ _ _ _ _ _ _ _ _ _ A2.out) hHeld hb fun w7 hb hHeld => ?_
 replace B1 := bB B1 hb
 replace B2 := bB B2 hb
 replace B3 := bB B3 hb
 replace HB := sB hb
 clear hb
 refine one_ (i := 4) (N := none) (lB 5 31) rfl rfl (by kernel_rfl) (by decide) (fun K hK => ?_)
 have hs11 := cB B3 0 (.bool false)
 have hfs11 := fB B3 0
 have hs12 := cB B3 1 (.string (⟨#[]⟩ : ByteArray))
 have hfs12 := fB B3 1
 have hs13 := cB B3 2 (.string (⟨#[]⟩ : ByteArray))
 have hfs13 := fB B3 2
 refine skip_ (w1 := ?_) (by rfl) rfl ?_ ?_
 rotate_left
 ·go_simp
  rfl
 refine hK.out _ _ zC (fun hHeld => ?_)
 clear hK K
 refine done_ (by kernel_rfl) ?_
 try go_wp2
 refine pR 23 #[.bool t4, .string t5, .string t6] B3 Tryz.underlying23 ?_
 exact ⟨zE, zH⟩
mutual
def R1Compound.j0 : Nat → List (S29) → Int → Int → Int → Int → Bool → Bool → ByteArray → ByteArray → Option (Bool × ByteArray × ByteArray × Int)
 | 0, _, _, _, _, _, _, _, _, _ => none
 | k + 1, x1, x2, x3, x4, x5, x49, x925000, x925001, x925002 => if x49 = true then (some (false, (⟨#[]⟩ : ByteArray), (⟨#[]⟩ : ByteArray), 2)) else ((R1Fix.f k x925000 x925001 x925002).bind fun bt927 => (R1Compound.l0 k x1 x2 x3 x4 x5 x925000 x925001 x925002 bt927.1 bt927.2.1 bt927.2.2))
def R1Compound.l0 : Nat → List (S29) → Int → Int → Int → Int → Bool → ByteArray → ByteArray → Bool → ByteArray → ByteArray → Option (Bool × ByteArray × ByteArray × Int)
 | 0, _, _, _, _, _, _, _, _, _, _, _ => none
 | k + 1, x1, x2, x3, x4, x5, x925000, x925001, x925002, x931000, x931001, x931002 => if x2 < x3 then (if x5 < (wrap64 (x3 - x2)) then (R1Compound.j2 k x1 x2 x3 x4 x5 (wrap64 (x2 + x5)) x925000 x925001 x925002 x931000 x931001 x931002) else (R1Compound.j2 k x1 x2 x3 x4 x5 x3 x925000 x925001 x925002 x931000 x931001 x931002)) else ((R1Fix.f k x925000 x925001 x925002).bind fun bt931 => ((R1Minus.f k x931000 x931001 x931002 bt931.1 bt931.2.1 bt931.2.2).bind fun bt934 => (some (bt934.1, bt934.2.1, bt934.2.2, 0))))
def R1Compound.j2 : Nat → List (S29) → Int → Int → Int → Int → Int → Bool → ByteArray → ByteArray → Bool → ByteArray → ByteArray → Option (Bool × ByteArray × ByteArray × Int)
 | 0, _, _, _, _, _, _, _, _, _, _, _, _ => none
 | k + 1, x1, x2, x3, x4, x5, x16, x925000, x925001, x925002, x931000, x931001, x931002 => (R1accrued.f k x1 x2 x16).bind fun bt937 => ((R1Times.f k x931000 x931001 x931002 bt937.1 bt937.2.1 bt937.2.2).bind fun bt940 => ((R1Int.f k x4).bind fun bt943 => ((R1Over.f k bt940.1 bt940.2.1 bt940.2.2 bt943.1 bt943.2.1 bt943.2.2).bind fun bt946 => ((R1Plus.f k x931000 x931001 x931002 bt946.1 bt946.2.1 bt946.2.2).bind fun bt949 => (R1Compound.l0 k x1 x16 x3 x4 x5 x925000 x925001 x925002 bt949.1 bt949.2.1 bt949.2.2)))))
end
def R1Compound.f (k : Nat) (a0_0 : Bool) (a0_1 a0_2 : ByteArray) (l1 : List (S29)) (a2 a3 a4 a5 : Int) : Option (Bool × ByteArray × ByteArray × Int) := (R1interval.f k a0_0 a0_1 a0_2 l1 a2 a3 a4 a5).bind fun t926 => (if t926 = 0 then (if a5 = 0 then (none) else (if (wrap64 (Int.tdiv (wrap64 (a3 - a2)) a5)) > 64 then (R1Compound.j0 k l1 a2 a3 a4 a5 true a0_0 a0_1 a0_2) else (if (wrap64 (Int.tdiv (wrap64 (a3 - a2)) a5)) = 64 then (R1Compound.j0 k l1 a2 a3 a4 a5 (decide ((Int.tmod (wrap64 (a3 - a2)) a5) > 0)) a0_0 a0_1 a0_2) else (R1Compound.j0 k l1 a2 a3 a4 a5 false a0_0 a0_1 a0_2)))) else (some (false, (⟨#[]⟩ : ByteArray), (⟨#[]⟩ : ByteArray), t926)))
def R1Compound.T11 : Bool × List (List Nat × List Nat) := (true, [([], []), ([], []), ([], []), ([], []), ([], []), ([2, 3, 4], [2, 3, 4]), ([1, 5, 5], [1, 5]), ([], []), ([7, 6], [7]), ([6, 8, 8], [6, 8]), ([0, 9, 9], [0, 9]), ([10, 10, 0, 1, 2, 3, 4, 5, 6, 7, 8, 9, 10], [10])])
def R1Compound.B11 : List Nat := [0, 0, 0, 0, 0, 28, 62, 0, 254, 510, 1023, 2047]
theorem R1Compound.tab11 : rtab .any (opsOf Tryz.f10 11) = R1Compound.T11 := by kernel_rfl
theorem R1Compound.bits11 : waitsOk R1Compound.T11.2 R1Compound.B11 = true := by kernel_rfl
theorem R1Compound.calls (k : Nat) (a0_0 : Bool) (a0_1 a0_2 : ByteArray) (A1 : Option Addr) (c1 : Nat) (l1 : List (S29)) (a2 a3 a4 a5 : Int) (r1 : Bool) (r2 r3 : ByteArray) (r4 : Int) (w : World) (hr1 : Kd.C k29 w A1 l1.length l1) (hc1 : l1.length ≤ c1) (H : R1Compound.f k a0_0 a0_1 a0_2 l1 a2 a3 a4 a5 = some (r1, r2, r3, r4)) :
 Calls Tryz.prog 10 #[.agg #[.bool a0_0, .string a0_1, .string a0_2], .slice A1 l1.length c1, .int .i64 a2, .int .i64 a3, .int .i64 a4, .int .i64 a5] w fun e w' => e = .returned (.tuple #[.agg #[.bool r1, .string r2, .string r3], .int .i64 r4]) ∧ Below w.heap.size w w' := by
 have hu1 := Tryz.underlying23
 have HR1 := Aside0.mk hr1
 have HC1 := Aside0.mk hc1
 clear hr1 hc1
 have HB := Aside0.mk (Below.refl w.heap.size w)
 unfold R1Compound.f at H
 replace ⟨t1, A2, H⟩ := bS H
 replace H := iQ H
 rcases H with ⟨c2b0, c2b1, H⟩ | ⟨c2b0, c2b1, H⟩
 ·have HC9 := Aside0.mk H
  clear H
  go_enter Tryz.func10, Tryz.ntmps10
  go_upto_region 4 with (first | (refine bxA w 6 #[.bool a0_0, .string a0_1, .string a0_2] 23 fun g1 w2 B1 G1 hg hb HB => ?_; clear hb hg) | (refine bxZ w 12 23 fun g2 w3 B2 G2 hg hb HB => ?_; obtain ⟨N1, N2⟩ := nP B1 hg; replace B1 := bB B1 hb; clear hb hg; have m1 := N1; have n1 := N2; obtain ⟨_, _, _, _, _, _⟩ := xB3 B1) | (refine gB 23 Tryz.func21 (R1interval.calls _ _ _ _ _ _ _ _ _ _ _ _ _ ?side1 ?side2 A2.out) fun w4 hb HB => ?_; (case side1 => exact sC (Kd.C_below HR1.out HB.out)); (case side2 => exact HC1.out); replace B1 := bB B1 hb; replace B2 := bB B2 hb; clear hb))
  (try simp only [Act.put, List.setIfInBounds_toArray, List.set_cons_zero, List.set_cons_succ])
  go_cut [49] (fun v1 wc => ∃ (kq : Nat) (x1 : Bool), v1 = .bool x1 ∧ Aside0 (R1Compound.j0 kq l1 a2 a3 a4 a5 x1 a0_0 a0_1 a0_2 = some (r1, r2, r3, r4)) ∧ Aside0 (kq ≤ k) ∧ Aside0 (wc.heap[g1]? = some (.cells #[.bool a0_0, .string a0_1, .string a0_2] 23 (0, 0))) ∧ Aside0 (wc.heap[g2]? = some (.cells #[.bool false, .string (⟨#[]⟩ : ByteArray), .string (⟨#[]⟩ : ByteArray)] 23 (0, 0))) ∧ Aside0 (Below w.heap.size w wc))
  case first =>
   have H := HC9.out
   clear HC9
   by_cases c3 : a5 = 0
   ·rw [if_pos c3] at H
    exact absurd H (by simp)
   ·rw [if_neg c3] at H
    have c3b0 := beq_eq_false_iff_ne.mpr c3
    have c3b1 := bne_iff_ne.mpr c3
    (first | rw [c3b0] | (simp only [i64_w, i32_w]; rw [c3b0]) | rw [c3b1] | skip)
    replace H := iL H
    rcases H with ⟨c4b0, H⟩ | ⟨c4b0, H⟩
    ·have H' := Aside0.mk H
     clear H
     go_wp2
     go_meet
     case rel => exact ⟨_, (true), zq1, H', ⟨zq6⟩, ⟨bC B1⟩, ⟨bC B2⟩, ⟨zH⟩⟩
    ·replace H := iQ H
     rcases H with ⟨c5b0, c5b1, H⟩ | ⟨c5b0, c5b1, H⟩
     ·have H' := Aside0.mk H
      clear H
      go_wp2
      go_meet
      case rel => exact ⟨_, (decide ((Int.tmod (wrap64 (a3 - a2)) a5) > 0)), zq1, H', ⟨zq6⟩, ⟨bC B1⟩, ⟨bC B2⟩, ⟨zH⟩⟩
     ·have H' := Aside0.mk H
      clear H
      go_wp2
      go_meet
      case rel => exact ⟨_, (false), zq1, H', ⟨zq6⟩, ⟨bC B1⟩, ⟨bC B2⟩, ⟨zH⟩⟩
  case rest =>
   clear HC9
   obtain ⟨kq, x1, rfl, HA, HJ8, B1, B2, HB⟩ := hcut
   cases kq with
   | zero => exact absurd HA.out (by simp [R1Compound.j0])
   | succ kj8 =>
    have H := HA.out
    clear HA
    simp only [R1Compound.j0] at H
    by_cases c4 : x1 = true
    ·subst c4
     rw [if_pos rfl] at H
     simp only [Option.some.injEq, Prod.mk.injEq] at H
     obtain ⟨rfl, rfl, rfl, rfl⟩ := H
     obtain ⟨_, _, _, _, _, _⟩ := xB3 B2
     go_wp2
     refine pRt 23 #[.bool false, .string (⟨#[]⟩ : ByteArray), .string (⟨#[]⟩ : ByteArray)] B2 Tryz.underlying23 ?_
     exact ⟨zE, zH⟩
    ·replace c4 := Bool.eq_false_iff.mpr c4
     subst c4
     rw [if_neg (show ¬ (false = true) by decide)] at H
     replace ⟨⟨t2, t3, t4⟩, A3, H⟩ := bS H
     (try dsimp only at H)
     have H' := Aside0.mk H
     clear H
     obtain ⟨_, _, _, _, _, _⟩ := xB3 B1
     go_wp2_with (first | (refine gB 52 Tryz.func22 (R1Fix.calls _ _ _ _ _ _ _ _ A3.out) fun w5 hb HB => ?_; replace B1 := bB B1 hb; replace B2 := bB B2 hb; clear hb) | (refine bxZ w 15 23 fun g3 w6 B3 G3 hg hb HB => ?_; obtain ⟨N3, N4⟩ := nP B1 hg; obtain ⟨N5, N6⟩ := nP B2 hg; replace B1 := bB B1 hb; replace B2 := bB B2 hb; clear hb hg; have m3 := N4; have n3 := N3; have m4 := N6; have n4 := N5; obtain ⟨_, _, _, _, _, _⟩ := xB3 B3))
     go_loopg [2] kj8 (fun kq v2 w' => ∃ (x2 : Int) (x3 : Bool) (x4 : ByteArray) (x5 : ByteArray), v2 = .int .i64 x2 ∧ Aside0 (R1Compound.l0 kq l1 x2 a3 a4 a5 a0_0 a0_1 a0_2 x3 x4 x5 = some (r1, r2, r3, r4)) ∧ Aside0 (kq ≤ kj8) ∧ Aside0 (w'.heap[g1]? = some (.cells #[.bool a0_0, .string a0_1, .string a0_2] 23 (0, 0))) ∧ Aside0 (w'.heap[g2]? = some (.cells #[.bool false, .string (⟨#[]⟩ : ByteArray), .string (⟨#[]⟩ : ByteArray)] 23 (0, 0))) ∧ Aside0 (w'.heap[g3]? = some (.cells #[.bool x3, .string x4, .string x5] 23 (0, 0))) ∧ Aside0 (Below w.heap.size w w'))
     case atStart => exact ⟨(a2), (t2), (t3), (t4), zq1, H', ⟨Nat.le_refl _⟩, ⟨bC B1⟩, ⟨bC B2⟩, ⟨bC B3⟩, ⟨zH⟩⟩
     case round =>
      clear H'
      obtain ⟨x2, x3, x4, x5, rfl, HA, HK2, B1, B2, B3, HB⟩ := hrel
      cases gk with
      | zero => exact absurd HA.out (by simp [R1Compound.l0])
      | succ k2 =>
       have H := HA.out
       clear HA
       simp only [R1Compound.l0] at H
       replace H := iL H
       rcases H with ⟨c5b0, H⟩ | ⟨c5b0, H⟩
       ·have HC30 := Aside0.mk H
        clear H
        go_upto_if 61 with (fail)
        go_cut [16] (fun v3 wc => ∃ (kq : Nat) (x6 : Int), v3 = .int .i64 x6 ∧ Aside0 (R1Compound.j2 kq l1 x2 a3 a4 a5 x6 a0_0 a0_1 a0_2 x3 x4 x5 = some (r1, r2, r3, r4)) ∧ Aside0 (kq ≤ k2) ∧ Aside0 (wc.heap[g1]? = some (.cells #[.bool a0_0, .string a0_1, .string a0_2] 23 (0, 0))) ∧ Aside0 (wc.heap[g2]? = some (.cells #[.bool false, .string (⟨#[]⟩ : ByteArray), .string (⟨#[]⟩ : ByteArray)] 23 (0, 0))) ∧ Aside0 (wc.heap[g3]? = some (.cells #[.bool x3, .string x4, .string x5] 23 (0, 0))) ∧ Aside0 (Below w.heap.size w wc))
        case first =>
         have H := HC30.out
         clear HC30
         replace H := iL H
         rcases H with ⟨c6b0, H⟩ | ⟨c6b0, H⟩
         ·(first | rw [c6b0] | (simp only [i64_w, i32_w]; rw [c6b0]) | rw [c6b1] | skip)
          have H' := Aside0.mk H
          clear H
          go_wp2
          go_meet
          case rel => exact ⟨_, (wrap64 (x2 + a5)), zq1, H', ⟨by have := HJ8.out; have := HK2.out; first | omega | exact Nat.le_refl _⟩, ⟨bC B1⟩, ⟨bC B2⟩, ⟨bC B3⟩, ⟨zH⟩⟩
         ·(first | rw [c6b0] | (simp only [i64_w, i32_w]; rw [c6b0]) | rw [c6b1] | skip)
          have H' := Aside0.mk H
          clear H
          go_wp2
          go_meet
          case rel => exact ⟨_, (a3), zq1, H', ⟨by have := HJ8.out; have := HK2.out; first | omega | exact Nat.le_refl _⟩, ⟨bC B1⟩, ⟨bC B2⟩, ⟨bC B3⟩, ⟨zH⟩⟩
        case rest =>
         clear HC30
         obtain ⟨kq, x6, rfl, HA, HJ29, B1, B2, B3, HB⟩ := hcut
         cases kq with
         | zero => exact absurd HA.out (by simp [R1Compound.j2])
         | succ kj29 =>
          have H := HA.out
          clear HA
          simp only [R1Compound.j2] at H
          replace ⟨⟨t5, t6, t7⟩, A4, H⟩ := bS H
          (try dsimp only at H)
          replace ⟨⟨t8, t9, t10⟩, A5, H⟩ := bS H
          (try dsimp only at H)
          replace ⟨⟨t11, t12, t13⟩, A6, H⟩ := bS H
          (try dsimp only at H)
          replace ⟨⟨t14, t15, t16⟩, A7, H⟩ := bS H
          (try dsimp only at H)
          replace ⟨⟨t17, t18, t19⟩, A8, H⟩ := bS H
          (try dsimp only at H)
          have H' := Aside0.mk H
          clear H
          try go_wp2
          replace B1 := bD B1
          replace B2 := bD B2
          replace B3 := bD B3
          replace HB := hD HB
          refine startC1 12 [11] B3 (fun hHeld => ?_); refine with_tabW R1Compound.tab11 R1Compound.bits11 (fun HT_ HW_ => ?_)
          generalize wc.drew = w7 at B1 B2 B3 HB hHeld ⊢
          refine pA 2 4 ?_
          refine pA 3 12 ?_
          refine pA 4 28 ?_
          refine pA 7 156 ?_
          refine tA 0 157 hHeld ?_
          refine tA 1 159 hHeld ?_
          refine oA 5 191 fun K hK => ?_
          refine goes_ Tryz.func26 (by kernel_rfl) rfl #[.slice A1 l1.length c1, .int .i64 x2, .int .i64 x6] (by rfl) rfl rfl zq5 ?_
          with_reducible refine (R1accrued.calls (H := A4.out) (hr0 := ?side1) (hc0 := ?side2) ..).mono ?_
          (case side1 => exact sC (Kd.C_below HR1.out HB.out))
          (case side2 => exact HC1.out)
          rintro e w8 ⟨rfl, hb⟩
          refine ⟨_, rfl, ?_⟩
          replace B1 := bB B1 hb
          replace B2 := bB B2 hb
          replace B3 := bB B3 hb
          replace HB := sB hb
          (try clear hb)
          refine hK.out _ _ zK (fun hHeld => ?_)
          clear hK K
          refine normA (N := 70) ?_
          refine rcB 6 255 Tryz.func25 (R1Times.calls _ _ _ _ _ _ _ _ _ _ _ A5.out) hHeld br fun w9 hb hHeld => ?_
          refine rcB 8 511 Tryz.func27 (R1Int.calls _ _ _ _ _ _ A6.out) hHeld hb fun w10 hb hHeld => ?_
          refine rcB 9 1023 Tryz.func24 (R1Over.calls _ _ _ _ _ _ _ _ _ _ _ A7.out) hHeld hb fun w11 hb hHeld => ?_
          refine rcB 10 2047 Tryz.func23 (R1Plus.calls _ _ _ _ _ _ _ _ _ _ _ A8.out) hHeld hb fun w12 hb hHeld => ?_
          replace B1 := bB B1 hb
          replace B2 := bB B2 hb
          replace B3 := bB B3 hb
          replace HB := sB hb
          clear hb
          refine last_ (i := 11) (N := none) (lB 12 4095) rfl rfl (one_of HT_.out (by kernel_rfl)) (by decide) (fun K hK => ?_)
          have hs43 := cB B3 0 (.bool x3)
          have hfs43 := fB B3 0
          have hs44 := cB B3 1 (.string x4)
          have hfs44 := fB B3 1
          have hs45 := cB B3 2 (.string x5)
          have hfs45 := fB B3 2
          refine skip_ (w1 := ?_) (by rfl) rfl ?_ ?_
          rotate_left
          ·go_simp
           rfl
          refine hK.out _ _ ?_
          clear hK K
          refine done_ (done_of HT_.out (by kernel_rfl)) ?_
          try go_wp2
          go_roundg kj29
          case measure => have := HJ8.out; have := HK2.out; have := HJ29.out; omega
          case rel => exact ⟨(x6), (t17), (t18), (t19), zq1, H', ⟨by have := HJ8.out; have := HK2.out; have := HJ29.out; omega⟩, ⟨bC B1⟩, ⟨bC B2⟩, ⟨bC B3⟩, ⟨zH⟩⟩
       ·replace ⟨⟨t5, t6, t7⟩, A4, H⟩ := bS H
        (try dsimp only at H)
        replace ⟨⟨t8, t9, t10⟩, A5, H⟩ := bS H
        (try dsimp only at H)
        simp only [Option.some.injEq, Prod.mk.injEq] at H
        obtain ⟨rfl, rfl, rfl, rfl⟩ := H
        try go_wp2
        replace B1 := bD B1
        replace B2 := bD B2
        replace B3 := bD B3
        replace HB := hD HB
        refine startC2 6 [] B3 B1 (fun hHeld => ?_)
        generalize wr.drew = w7 at B1 B2 B3 HB hHeld ⊢
        refine takeAk 0 77 (lB 6 1) rfl rfl hHeld ?_
        refine takeAk 1 78 (lB 6 3) rfl rfl hHeld ?_
        refine rcBk 2 7 Tryz.func22 (R1Fix.calls _ _ _ _ _ _ _ _ A4.out) hHeld br fun w8 hb hHeld => ?_
        refine rcBk 3 15 Tryz.func28 (R1Minus.calls _ _ _ _ _ _ _ _ _ _ _ A5.out) hHeld hb fun w9 hb hHeld => ?_
        replace B1 := bB B1 hb
        replace B2 := bB B2 hb
        replace B3 := bB B3 hb
        replace HB := sB hb
        clear hb
        refine one_ (i := 4) (N := none) (lB 6 31) rfl rfl (by kernel_rfl) (by decide) (fun K hK => ?_)
        have hs51 := cB B2 0 (.bool false)
        have hfs51 := fB B2 0
        have hs52 := cB B2 1 (.string (⟨#[]⟩ : ByteArray))
        have hfs52 := fB B2 1
        have hs53 := cB B2 2 (.string (⟨#[]⟩ : ByteArray))
        have hfs53 := fB B2 2
        refine skip_ (w1 := ?_) (by rfl) rfl ?_ ?_
        rotate_left
        ·go_simp
         rfl
        refine hK.out _ _ zC (fun hHeld => ?_)
        clear hK K
        refine pureAk 5 13 (lB 6 63) rfl rfl ?_
        refine done_ (by kernel_rfl) ?_
        try go_wp2
        refine pRt 23 #[.bool t8, .string t9, .string t10] B2 Tryz.underlying23 ?_
        exact ⟨zE, zH⟩
 ·simp only [Option.some.injEq, Prod.mk.injEq] at H
  obtain ⟨rfl, rfl, rfl, rfl⟩ := H
  go_enter Tryz.func10, Tryz.ntmps10
  go_wp2_with (first | (refine bxA w 6 #[.bool a0_0, .string a0_1, .string a0_2] 23 fun g1 w2 B1 G1 hg hb HB => ?_; clear hb hg) | (refine bxZ w 12 23 fun g2 w3 B2 G2 hg hb HB => ?_; obtain ⟨N1, N2⟩ := nP B1 hg; replace B1 := bB B1 hb; clear hb hg; have m1 := N1; have n1 := N2; obtain ⟨_, _, _, _, _, _⟩ := xB3 B1) | (refine gB 23 Tryz.func21 (R1interval.calls _ _ _ _ _ _ _ _ _ _ _ _ _ ?side1 ?side2 A2.out) fun w4 hb HB => ?_; (case side1 => exact sC (Kd.C_below HR1.out HB.out)); (case side2 => exact HC1.out); replace B1 := bB B1 hb; replace B2 := bB B2 hb; clear hb; obtain ⟨_, _, _, _, _, _⟩ := xB3 B2))
  refine pRt 23 #[.bool false, .string (⟨#[]⟩ : ByteArray), .string (⟨#[]⟩ : ByteArray)] B2 Tryz.underlying23 ?_
  exact ⟨zE, zH⟩
end Go.Proofs.YtggfilmdfpmbmaaGreatDoor.QN
end
section
namespace Go.Proofs.YtggfilmdfpmbmaaGreatDoor.QN
open Go.RowKit Go.Proofs.YtggfilmdfpmbmaaGreatDoorW.PrintWords Go.Proofs.YtggfilmdfpmbmaaGreatDoorW.PrintLast Go.Proofs.YtggfilmdfpmbmaaGreatDoorW.PrintMore
attribute [local go_sem] max2_int min2_int max_two min_two max_three min_three max_four min_four
set_option linter.unusedVariables false
set_option linter.unusedSimpArgs false
attribute [local go_sem high] eqA23
mutual
def L6InterestCompound.j0 : Nat → List (S29) → Int → Int → Int → Int → Bool → Bool → ByteArray → ByteArray → Option (Bool)
 | 0, _, _, _, _, _, _, _, _, _ => none
 | k + 1, x1, x2, x3, x4, x5, x26, x953000, x953001, x953002 => if x26 = true then ((L6awake.f k).bind fun t955 => (some t955)) else (L6InterestCompound.l0 k x1 x2 x3 x4 x5 x1 (x1.length : Int) 0 x953000 x953001 x953002)
def L6InterestCompound.l0 : Nat → List (S29) → Int → Int → Int → Int → List (S29) → Int → Int → Bool → ByteArray → ByteArray → Option (Bool)
 | 0, _, _, _, _, _, _, _, _, _, _, _ => none
 | k + 1, x1, x2, x3, x4, x5, x28, x29, x30, x953000, x953001, x953002 => if x30 < x29 then (if 0 ≤ x30 then (if x30 < (x28.length : Int) then (if (((rd_T29 x28 x30).f1.f1).size : Int) > 4 then ((L6awake.f k).bind fun t958 => (some t958)) else (if (((rd_T29 x28 x30).f1.f2).size : Int) > 4 then ((L6awake.f k).bind fun t959 => (some t959)) else (L6InterestCompound.l0 k x1 x2 x3 x4 x5 x28 x29 (wrap64 (x30 + 1)) x953000 x953001 x953002))) else (none)) else (none)) else ((R1IsDay.f x2).bind fun t960 => (if t960 = true then ((R1IsDay.f x3).bind fun t961 => (if t961 = true then (if x5 ≥ 1 then (if x5 = 0 then (none) else (L6InterestCompound.j2 k x1 x2 x3 x4 x5 (decide ((wrap64 (Int.tdiv (wrap64 (x3 - x2)) x5)) > 12)) x953000 x953001 x953002)) else (L6InterestCompound.j2 k x1 x2 x3 x4 x5 false x953000 x953001 x953002)) else (L6InterestCompound.j2 k x1 x2 x3 x4 x5 false x953000 x953001 x953002))) else (L6InterestCompound.j2 k x1 x2 x3 x4 x5 false x953000 x953001 x953002)))
def L6InterestCompound.j2 : Nat → List (S29) → Int → Int → Int → Int → Bool → Bool → ByteArray → ByteArray → Option (Bool)
 | 0, _, _, _, _, _, _, _, _, _ => none
 | k + 1, x1, x2, x3, x4, x5, x65, x953000, x953001, x953002 => if x65 = true then ((L6awake.f k).bind fun t962 => (some t962)) else ((I1Compound.f k x953000 x953001 x953002 x1 x2 x3 x4 x5).bind fun bt963 => ((R1Compound.f k x953000 x953001 x953002 x1 x2 x3 x4 x5).bind fun bt968 => ((L6awake.f k).bind fun t973 => (if t973 = true then (if (bt963.1 == bt968.1 && (bt963.2.1.toList == bt968.2.1.toList && (bt963.2.2.1.toList == bt968.2.2.1.toList))) = true then (some (bt963.2.2.2 == bt968.2.2.2)) else (some false)) else (some false)))))
end
def L6InterestCompound.f (k : Nat) (a0_0 : Bool) (a0_1 a0_2 : ByteArray) (l1 : List (S29)) (a2 a3 a4 a5 : Int) : Option (Bool) := (L6few.f k l1).bind fun t953 => (if t953 = true then ((L0Few.f a0_0 a0_1 a0_2).bind fun t954 => (L6InterestCompound.j0 k l1 a2 a3 a4 a5 (!t954) a0_0 a0_1 a0_2)) else (L6InterestCompound.j0 k l1 a2 a3 a4 a5 true a0_0 a0_1 a0_2))
set_option maxHeartbeats 8000000 in
set_option maxRecDepth 100000 in
theorem L6InterestCompound.calls (k : Nat) (a0_0 : Bool) (a0_1 a0_2 : ByteArray) (A1 : Option Addr) (c1 : Nat) (l1 : List (S29)) (a2 a3 a4 a5 : Int) (r : Bool) (w : World) (hr1 : Kd.C k29 w A1 l1.length l1) (hc1 : l1.length ≤ c1) (H : L6InterestCompound.f k a0_0 a0_1 a0_2 l1 a2 a3 a4 a5 = some r) :
 Calls Tryz.prog 3 #[.agg #[.bool a0_0, .string a0_1, .string a0_2], .slice A1 l1.length c1, .int .i64 a2, .int .i64 a3, .int .i64 a4, .int .i64 a5] w fun e w' => e = .returned (.bool r) ∧ Below w.heap.size w w' := by
 have hu1 := Tryz.underlying23
 have hu2 := Tryz.underlying29
 have HR1 := Aside0.mk hr1
 have HC1 := Aside0.mk hc1
 clear hr1 hc1
 have HB := Aside0.mk (Below.refl w.heap.size w)
 unfold L6InterestCompound.f at H
 have HC7 := Aside0.mk H
 clear H
 go_enter Tryz.func3, Tryz.ntmps3
 go_upto_region 1 with ((with_reducible refine gate_dst (N := 6) rfl ?_); (try (refine gate_guard (by rfl) ?_; dsimp only)); refine box_event ?hg (N := 6) ?hd (cs := #[.bool a0_0, .string a0_1, .string a0_2]) (t := 23) ?hr ?_; (case hd => rfl); (case hg => rfl); (case hr => first | (go_simp; done) | (go_simp; rfl)); intro g1 hg w1 hbox hb; have B1 := Aside0.mk hbox; have G1 := wE w hg; replace HB := sB hb; clear hb hbox hg)
 (try simp only [Act.put, List.setIfInBounds_toArray, List.set_cons_zero, List.set_cons_succ])
 go_cut [26] (fun v1 wc => ∃ (kq : Nat) (x1 : Bool), v1 = .bool x1 ∧ Aside0 (L6InterestCompound.j0 kq l1 a2 a3 a4 a5 x1 a0_0 a0_1 a0_2 = some r) ∧ Aside0 (kq ≤ k) ∧ Aside0 (wc.heap[g1]? = some (.cells #[.bool a0_0, .string a0_1, .string a0_2] 23 (0, 0))) ∧ Aside0 (Below w.heap.size w wc))
 case first =>
  have H := HC7.out
  clear HC7
  replace ⟨t1, A2, H⟩ := bS H
  by_cases c2 : t1 = true
  ·subst c2
   rw [if_pos rfl] at H
   replace ⟨t2, A3, H⟩ := bS H
   have H' := Aside0.mk H
   clear H
   go_wp2_with (first | (refine gB 20 Tryz.func5 (L6few.calls k _ _ l1 true _ ?side1 ?side2 A2.out) fun w2 hb HB => ?_; (case side1 => exact sC (Kd.C_below HR1.out HB.out)); (case side2 => exact HC1.out); replace B1 := bB B1 hb; clear hb; obtain ⟨_, _, _, _, _, _⟩ := xB3 B1) | (go_at_call 6; (with_reducible refine (L0Few.calls (H := A3.out) ..).mono ?_); rintro e w3 ⟨rfl, hb⟩; replace B1 := bB B1 hb; replace HB := sB hb; (try clear hb)))
   go_meet
   case rel => exact ⟨_, (!t2), zq1, H', ⟨zq6⟩, ⟨bC B1⟩, ⟨zH⟩⟩
  ·replace c2 := Bool.eq_false_iff.mpr c2
   subst c2
   rw [if_neg (show ¬ (false = true) by decide)] at H
   have H' := Aside0.mk H
   clear H
   go_wp2_with (refine gB 20 Tryz.func5 (L6few.calls k _ _ l1 false _ ?side1 ?side2 A2.out) fun w2 hb HB => ?_; (case side1 => exact sC (Kd.C_below HR1.out HB.out)); (case side2 => exact HC1.out); replace B1 := bB B1 hb; clear hb)
   go_meet
   case rel => exact ⟨_, (true), zq1, H', ⟨zq6⟩, ⟨bC B1⟩, ⟨zH⟩⟩
 case rest =>
  clear HC7
  obtain ⟨kq, x1, rfl, HA, HJ6, B1, HB⟩ := hcut
  cases kq with
  | zero => exact absurd HA.out (by simp [L6InterestCompound.j0])
  | succ kj6 =>
   have H := HA.out
   clear HA
   simp only [L6InterestCompound.j0] at H
   by_cases c3 : x1 = true
   ·subst c3
    rw [if_pos rfl] at H
    replace ⟨t2, A3, H⟩ := bS H
    obtain rfl := sI H
    go_wp2_with (refine gB 27 Tryz.func7 (L6awake.calls _ _ _ A3.out) fun w2 hb HB => ?_; replace B1 := bB B1 hb; clear hb)
    go_ret
    exact ⟨zE, zH⟩
   ·replace c3 := Bool.eq_false_iff.mpr c3
    subst c3
    rw [if_neg (show ¬ (false = true) by decide)] at H
    have H' := Aside0.mk H
    clear H
    go_wp2
    go_loopg [30] kj6 (fun kq v2 w' => ∃ (x2 : Int), v2 = .int .i64 x2 ∧ Aside0 (L6InterestCompound.l0 kq l1 a2 a3 a4 a5 l1 (l1.length : Int) x2 a0_0 a0_1 a0_2 = some r) ∧ Aside0 (kq ≤ kj6) ∧ Aside0 (w'.heap[g1]? = some (.cells #[.bool a0_0, .string a0_1, .string a0_2] 23 (0, 0))) ∧ Aside0 (Below w.heap.size w w'))
    case atStart => exact ⟨(0), zq1, H', ⟨Nat.le_refl _⟩, ⟨bC B1⟩, ⟨zH⟩⟩
    case round =>
     clear H'
     obtain ⟨x2, rfl, HA, HK2, B1, HB⟩ := hrel
     cases gk with
     | zero => exact absurd HA.out (by simp [L6InterestCompound.l0])
     | succ k2 =>
      have H := HA.out
      clear HA
      simp only [L6InterestCompound.l0] at H
      replace H := iL H
      rcases H with ⟨c4b0, H⟩ | ⟨c4b0, H⟩
      ·replace ⟨c5b0, H⟩ := iteD H
       replace ⟨c6b0, H⟩ := iteD H
       by_cases c7 : (((rd_T29 l1 x2).f1.f1).size : Int) > 4
       ·rw [if_pos c7] at H
        have c7b0 := decide_eq_true c7
        have c7b1 : decide (4 < ((rd_T29 l1 x2).f1.f1).size) = true := decide_eq_true (by omega)
        clear c7
        replace ⟨t2, A3, H⟩ := bS H
        obtain rfl := sI H
        have p1 : 0 ≤ (x2 : Int) := of_decide_eq_true zq0
        have q1 : x2 < (l1.length : Int) := of_decide_eq_true zq0
        obtain ⟨ad1, e1, hx1, hx2, hx3, hx4⟩ := at_T29 HR1.out x2 p1 q1
        cases e1
        (try replace hx1 := hM HB hx1)
        (try replace hx2 := hM HB hx2)
        (try replace hx3 := hM HB hx3)
        (try replace hx4 := hM HB hx4)
        replace p1 := eq_true p1
        replace q1 := eq_true q1
        go_wp2_with (first | ((with_reducible refine gate_dst (N := 14) rfl ?_); (try (refine gate_guard (by rfl) ?_; dsimp only)); refine box_event ?hg (N := 14) ?hd (cs := #[.int .i64 0, .bool false, .string (⟨#[]⟩ : ByteArray), .string (⟨#[]⟩ : ByteArray)]) (t := 29) ?hr ?_; (case hd => rfl); (case hg => rfl); (case hr => first | (go_simp; done) | (go_simp; rfl)); intro g2 hg w2 hbox hb; have B2 := Aside0.mk (hbox); have G2 := wE w hg; obtain ⟨N1, N2⟩ := nP B1 hg; replace B1 := bB B1 hb; replace HB := sB hb; clear hb hbox hg; have m1 := N2; have n1 := N1; obtain ⟨_, _, _, _, _, _, _, _⟩ := xB4 B2) | (refine gB 46 Tryz.func7 (L6awake.calls _ _ _ A3.out) fun w3 hb HB => ?_; replace B1 := bV B1 hb; replace B2 := bV B2 hb; clear hb))
        go_ret
        exact ⟨zE, zH⟩
       ·rw [if_neg c7] at H
        have c7b0 := decide_eq_false c7
        have c7b1 : decide (4 < ((rd_T29 l1 x2).f1.f1).size) = false := decide_eq_false (by omega)
        clear c7
        by_cases c8 : (((rd_T29 l1 x2).f1.f2).size : Int) > 4
        ·rw [if_pos c8] at H
         have c8b0 := decide_eq_true c8
         have c8b1 : decide (4 < ((rd_T29 l1 x2).f1.f2).size) = true := decide_eq_true (by omega)
         clear c8
         replace ⟨t2, A3, H⟩ := bS H
         obtain rfl := sI H
         have p1 : 0 ≤ (x2 : Int) := of_decide_eq_true zq0
         have q1 : x2 < (l1.length : Int) := of_decide_eq_true zq0
         obtain ⟨ad1, e1, hx1, hx2, hx3, hx4⟩ := at_T29 HR1.out x2 p1 q1
         cases e1
         (try replace hx1 := hM HB hx1)
         (try replace hx2 := hM HB hx2)
         (try replace hx3 := hM HB hx3)
         (try replace hx4 := hM HB hx4)
         replace p1 := eq_true p1
         replace q1 := eq_true q1
         go_wp2_with (first | ((with_reducible refine gate_dst (N := 14) rfl ?_); (try (refine gate_guard (by rfl) ?_; dsimp only)); refine box_event ?hg (N := 14) ?hd (cs := #[.int .i64 0, .bool false, .string (⟨#[]⟩ : ByteArray), .string (⟨#[]⟩ : ByteArray)]) (t := 29) ?hr ?_; (case hd => rfl); (case hg => rfl); (case hr => first | (go_simp; done) | (go_simp; rfl)); intro g2 hg w2 hbox hb; have B2 := Aside0.mk (hbox); have G2 := wE w hg; obtain ⟨N1, N2⟩ := nP B1 hg; replace B1 := bB B1 hb; replace HB := sB hb; clear hb hbox hg; have m1 := N2; have n1 := N1; obtain ⟨_, _, _, _, _, _, _, _⟩ := xB4 B2) | (refine gB 46 Tryz.func7 (L6awake.calls _ _ _ A3.out) fun w3 hb HB => ?_; replace B1 := bV B1 hb; replace B2 := bV B2 hb; clear hb))
         go_ret
         exact ⟨zE, zH⟩
        ·rw [if_neg c8] at H
         have c8b0 := decide_eq_false c8
         have c8b1 : decide (4 < ((rd_T29 l1 x2).f1.f2).size) = false := decide_eq_false (by omega)
         clear c8
         have H' := Aside0.mk H
         clear H
         have p1 : 0 ≤ (x2 : Int) := of_decide_eq_true zq0
         have q1 : x2 < (l1.length : Int) := of_decide_eq_true zq0
         obtain ⟨ad1, e1, hx1, hx2, hx3, hx4⟩ := at_T29 HR1.out x2 p1 q1
         cases e1
         (try replace hx1 := hM HB hx1)
         (try replace hx2 := hM HB hx2)
         (try replace hx3 := hM HB hx3)
         (try replace hx4 := hM HB hx4)
         replace p1 := eq_true p1
         replace q1 := eq_true q1
         go_wp2_with ((with_reducible refine gate_dst (N := 14) rfl ?_); (try (refine gate_guard (by rfl) ?_; dsimp only)); refine box_event ?hg (N := 14) ?hd (cs := #[.int .i64 0, .bool false, .string (⟨#[]⟩ : ByteArray), .string (⟨#[]⟩ : ByteArray)]) (t := 29) ?hr ?_; (case hd => rfl); (case hg => rfl); (case hr => first | (go_simp; done) | (go_simp; rfl)); intro g2 hg w2 hbox hb; have B2 := Aside0.mk (hbox); have G2 := wE w hg; obtain ⟨N1, N2⟩ := nP B1 hg; replace B1 := bB B1 hb; replace HB := sB hb; clear hb hbox hg; have m1 := N2; have n1 := N1; obtain ⟨_, _, _, _, _, _, _, _⟩ := xB4 B2)
         go_roundg k2
         case measure => have := HJ6.out; have := HK2.out; omega
         case rel => exact ⟨(wrap64 (x2 + 1)), zq1, H', ⟨by have := HJ6.out; have := HK2.out; omega⟩, ⟨bC B1⟩, ⟨zH⟩⟩
      ·have HC37 := Aside0.mk H
       clear H
       go_upto_region 9 with (fail)
       go_cut [65] (fun v3 wc => ∃ (kq : Nat) (x3 : Bool), v3 = .bool x3 ∧ Aside0 (L6InterestCompound.j2 kq l1 a2 a3 a4 a5 x3 a0_0 a0_1 a0_2 = some r) ∧ Aside0 (kq ≤ k2) ∧ Aside0 (wc.heap[g1]? = some (.cells #[.bool a0_0, .string a0_1, .string a0_2] 23 (0, 0))) ∧ Aside0 (Below w.heap.size w wc))
       case first =>
        have H := HC37.out
        clear HC37
        replace ⟨t2, A3, H⟩ := bS H
        by_cases c5 : t2 = true
        ·subst c5
         rw [if_pos rfl] at H
         replace ⟨t3, A4, H⟩ := bS H
         by_cases c6 : t3 = true
         ·subst c6
          rw [if_pos rfl] at H
          replace H := iL H
          rcases H with ⟨c7b0, H⟩ | ⟨c7b0, H⟩
          ·(first | rw [c7b0] | (simp only [i64_w, i32_w]; rw [c7b0]) | rw [c7b1] | skip)
           by_cases c8 : a5 = 0
           ·rw [if_pos c8] at H
            exact absurd H (by simp)
           ·rw [if_neg c8] at H
            have c8b0 := beq_eq_false_iff_ne.mpr c8
            have c8b1 := bne_iff_ne.mpr c8
            have H' := Aside0.mk H
            clear H
            go_wp2_with (first | (refine gD 49 Tryz.func8 (R1IsDay.calls a2 true _ A3.out) fun nd => ?_) | (go_at_call 8; (with_reducible refine (R1IsDay.calls a3 true _ A4.out).mono ?_); rintro e w' ⟨rfl, ⟨nd, rfl⟩⟩))
            go_meet
            case rel => exact ⟨_, (decide ((wrap64 (Int.tdiv (wrap64 (a3 - a2)) a5)) > 12)), zq1, H', ⟨zq47⟩, ⟨bC B1⟩, ⟨zH⟩⟩
          ·(first | rw [c7b0] | (simp only [i64_w, i32_w]; rw [c7b0]) | rw [c7b1] | skip)
           have H' := Aside0.mk H
           clear H
           go_wp2_with (first | (refine gD 49 Tryz.func8 (R1IsDay.calls a2 true _ A3.out) fun nd => ?_) | (go_at_call 8; (with_reducible refine (R1IsDay.calls a3 true _ A4.out).mono ?_); rintro e w' ⟨rfl, ⟨nd, rfl⟩⟩))
           go_meet
           case rel => exact ⟨_, (false), zq1, H', ⟨zq47⟩, ⟨bC B1⟩, ⟨zH⟩⟩
         ·replace c6 := Bool.eq_false_iff.mpr c6
          subst c6
          rw [if_neg (show ¬ (false = true) by decide)] at H
          have H' := Aside0.mk H
          clear H
          go_wp2_with (first | (refine gD 49 Tryz.func8 (R1IsDay.calls a2 true _ A3.out) fun nd => ?_) | (go_at_call 8; (with_reducible refine (R1IsDay.calls (H := A4.out) ..).mono ?_); rintro e w' ⟨rfl, ⟨nd, rfl⟩⟩))
          go_meet
          case rel => exact ⟨_, (false), zq1, H', ⟨zq47⟩, ⟨bC B1⟩, ⟨zH⟩⟩
        ·replace c5 := Bool.eq_false_iff.mpr c5
         subst c5
         rw [if_neg (show ¬ (false = true) by decide)] at H
         have H' := Aside0.mk H
         clear H
         go_wp2_with (refine gD 49 Tryz.func8 (R1IsDay.calls _ _ _ A3.out) fun nd => ?_)
         go_meet
         case rel => exact ⟨_, (false), zq1, H', ⟨zq47⟩, ⟨bC B1⟩, ⟨zH⟩⟩
       case rest =>
        clear HC37
        obtain ⟨kq, x3, rfl, HA, HJ36, B1, HB⟩ := hcut
        cases kq with
        | zero => exact absurd HA.out (by simp [L6InterestCompound.j2])
        | succ kj36 =>
         have H := HA.out
         clear HA
         simp only [L6InterestCompound.j2] at H
         by_cases c6 : x3 = true
         ·subst c6
          rw [if_pos rfl] at H
          replace ⟨t3, A4, H⟩ := bS H
          obtain rfl := sI H
          go_wp2_with (refine gB 66 Tryz.func7 (L6awake.calls _ _ _ A4.out) fun w2 hb HB => ?_; replace B1 := bB B1 hb; clear hb)
          go_ret
          exact ⟨zE, zH⟩
         ·replace c6 := Bool.eq_false_iff.mpr c6
          subst c6
          rw [if_neg (show ¬ (false = true) by decide)] at H
          replace ⟨⟨t4, t5, t6, t7⟩, A4, H⟩ := bS H
          (try dsimp only at H)
          replace ⟨⟨t8, t9, t10, t11⟩, A5, H⟩ := bS H
          (try dsimp only at H)
          replace ⟨t3, A6, H⟩ := bS H
          by_cases c7 : t3 = true
          ·subst c7
           rw [if_pos rfl] at H
           by_cases c8 : (t4 == t8 && (t5.toList == t9.toList && (t6.toList == t10.toList))) = true
           rw [if_pos c8] at H
           have c8b0 : (t4 == t8 && (t5.toList == t9.toList && (t6.toList == t10.toList))) = true := c8
           (try (have c8b1 : decide (t4 = t8 && (t5.toList == t9.toList && (t6.toList == t10.toList))) = true := by simpa using c8))
           (try (have c8b2 : (t4 == t8 && (t5.toList == t9.toList && (t6.toList == t10.toList))) = true := by simpa using c8))
           clear c8
           obtain rfl := sI H
           obtain ⟨_, _, _, _, _, _⟩ := xB3 B1
           rotate_left
           rw [if_neg c8] at H
           have c8b0 : (t4 == t8 && (t5.toList == t9.toList && (t6.toList == t10.toList))) = false := by simpa using c8
           (try (have c8b1 : decide (t4 = t8 && (t5.toList == t9.toList && (t6.toList == t10.toList))) = false := by simpa using c8))
           (try (have c8b2 : (t4 == t8 && (t5.toList == t9.toList && (t6.toList == t10.toList))) = false := by simpa using c8))
           (try (have c8b3 : ¬ (t4 = t8 && (t5.toList == t9.toList && (t6.toList == t10.toList))) := by simpa using c8))
           clear c8
           obtain rfl := sI H
           obtain ⟨_, _, _, _, _, _⟩ := xB3 B1
           rotate_left
           all_goals
            go_wp2_with (first | (refine gB 74 Tryz.func9 (I1Compound.calls _ _ _ _ _ _ _ _ _ _ _ _ _ _ _ _ ?side1 ?side2 A4.out) fun w2 hb HB => ?_; (case side1 => exact sC (Kd.C_below HR1.out HB.out)); (case side2 => exact HC1.out); replace B1 := bB B1 hb; clear hb) | ((with_reducible refine gate_dst (N := 15) rfl ?_); (try (refine gate_guard (by rfl) ?_; dsimp only)); refine box_event ?hg (N := 15) ?hd (cs := #[.bool false, .string (⟨#[]⟩ : ByteArray), .string (⟨#[]⟩ : ByteArray)]) (t := 23) ?hr ?_; (case hd => rfl); (case hg => rfl); (case hr => first | (go_simp; done) | (go_simp; rfl)); intro g2 hg w3 hbox hb; have B2 := Aside0.mk (hbox); have G2 := wE w hg; obtain ⟨N1, N2⟩ := nP B1 hg; replace B1 := bB B1 hb; replace HB := sB hb; clear hb hbox hg; have m1 := N2; have n1 := N1; obtain ⟨_, _, _, _, _, _⟩ := xB3 B2; obtain ⟨_, _, _, _, _, _⟩ := xB3 B1) | (refine gB 84 Tryz.func10 (R1Compound.calls _ _ _ _ _ _ _ _ _ _ _ _ _ _ _ _ ?side1 ?side2 A5.out) fun w4 hb HB => ?_; (case side1 => exact Kd.C_below HR1.out zH); (case side2 => exact HC1.out); replace B1 := bV B1 hb; replace B2 := bV B2 hb; clear hb) | ((with_reducible refine gate_dst (N := 17) rfl ?_); (try (refine gate_guard (by rfl) ?_; dsimp only)); refine box_event ?hg (N := 17) ?hd (cs := #[.bool false, .string (⟨#[]⟩ : ByteArray), .string (⟨#[]⟩ : ByteArray)]) (t := 23) ?hr ?_; (case hd => rfl); (case hg => rfl); (case hr => first | (go_simp; done) | (go_simp; rfl)); intro g3 hg w5 hbox hb; have B3 := Aside0.mk (hbox); have G3 := wE w hg; obtain ⟨N3, N4⟩ := nP B1 hg; obtain ⟨N5, N6⟩ := nP B2 hg; replace B1 := bB B1 hb; replace B2 := bB B2 hb; replace HB := sB hb; clear hb hbox hg; have m2 := N4; have n2 := N3; have m3 := N6; have n3 := N5; obtain ⟨_, _, _, _, _, _⟩ := xB3 B3) | (refine gB 87 Tryz.func7 (L6awake.calls _ _ _ A6.out) fun w6 hb HB => ?_; replace B1 := bV B1 hb; replace B2 := bV B2 hb; replace B3 := bV B3 hb; clear hb; obtain ⟨_, _, _, _, _, _⟩ := xB3 B2; obtain ⟨_, _, _, _, _, _⟩ := xB3 B3))
            go_ret
            exact ⟨zE, zH⟩
          ·replace c7 := Bool.eq_false_iff.mpr c7
           subst c7
           rw [if_neg (show ¬ (false = true) by decide)] at H
           obtain rfl := sI H
           obtain ⟨_, _, _, _, _, _⟩ := xB3 B1
           go_wp2_with (first | (refine gB 74 Tryz.func9 (I1Compound.calls _ _ _ _ _ _ _ _ _ _ _ _ _ _ _ _ ?side1 ?side2 A4.out) fun w2 hb HB => ?_; (case side1 => exact sC (Kd.C_below HR1.out HB.out)); (case side2 => exact HC1.out); replace B1 := bB B1 hb; clear hb) | ((with_reducible refine gate_dst (N := 15) rfl ?_); (try (refine gate_guard (by rfl) ?_; dsimp only)); refine box_event ?hg (N := 15) ?hd (cs := #[.bool false, .string (⟨#[]⟩ : ByteArray), .string (⟨#[]⟩ : ByteArray)]) (t := 23) ?hr ?_; (case hd => rfl); (case hg => rfl); (case hr => first | (go_simp; done) | (go_simp; rfl)); intro g2 hg w3 hbox hb; have B2 := Aside0.mk (hbox); have G2 := wE w hg; obtain ⟨N1, N2⟩ := nP B1 hg; replace B1 := bB B1 hb; replace HB := sB hb; clear hb hbox hg; have m1 := N2; have n1 := N1; obtain ⟨_, _, _, _, _, _⟩ := xB3 B2; obtain ⟨_, _, _, _, _, _⟩ := xB3 B1) | (refine gB 84 Tryz.func10 (R1Compound.calls _ _ _ _ _ _ _ _ _ _ _ _ _ _ _ _ ?side1 ?side2 A5.out) fun w4 hb HB => ?_; (case side1 => exact Kd.C_below HR1.out zH); (case side2 => exact HC1.out); replace B1 := bV B1 hb; replace B2 := bV B2 hb; clear hb) | ((with_reducible refine gate_dst (N := 17) rfl ?_); (try (refine gate_guard (by rfl) ?_; dsimp only)); refine box_event ?hg (N := 17) ?hd (cs := #[.bool false, .string (⟨#[]⟩ : ByteArray), .string (⟨#[]⟩ : ByteArray)]) (t := 23) ?hr ?_; (case hd => rfl); (case hg => rfl); (case hr => first | (go_simp; done) | (go_simp; rfl)); intro g3 hg w5 hbox hb; have B3 := Aside0.mk (hbox); have G3 := wE w hg; obtain ⟨N3, N4⟩ := nP B1 hg; obtain ⟨N5, N6⟩ := nP B2 hg; replace B1 := bB B1 hb; replace B2 := bB B2 hb; replace HB := sB hb; clear hb hbox hg; have m2 := N4; have n2 := N3; have m3 := N6; have n3 := N5; obtain ⟨_, _, _, _, _, _⟩ := xB3 B3) | (refine gB 87 Tryz.func7 (L6awake.calls _ _ _ A6.out) fun w6 hb HB => ?_; replace B1 := bV B1 hb; replace B2 := bV B2 hb; replace B3 := bV B3 hb; clear hb))
           go_ret
           exact ⟨zE, zH⟩
def L6InterestPeriods.f (k : Nat) (a0 : Int) (l1 : List (S52)) (a2 a3 a4 : Int) : Option (Bool) := (L0Steps.f k l1).bind fun t974 => ((L0Amount.f k a0).bind fun bt977 => ((I1Compound.f k bt977.1 bt977.2.1 bt977.2.2 t974 (wrap64 (a2)) (wrap64 ((wrap64 (a2)) + (wrap64 (a3)))) 365 (wrap64 (1 + (wrap64 (Int.tmod a4 40))))).bind fun bt981 => (if (wrap64 (a3)) > (wrap64 ((wrap64 (1 + (wrap64 (Int.tmod a4 40)))) * 64)) then ((L6awake.f k).bind fun t986 => (if t986 = true then (if bt981.2.2.2 = 2 then (some (!bt981.1 && (bt981.2.1.toList == ([] : List UInt8) && (bt981.2.2.1.toList == ([] : List UInt8))))) else (some false)) else (some false))) else ((R1Compound.f k bt977.1 bt977.2.1 bt977.2.2 t974 (wrap64 (a2)) (wrap64 ((wrap64 (a2)) + (wrap64 (a3)))) 365 (wrap64 (1 + (wrap64 (Int.tmod a4 40))))).bind fun bt987 => ((L6awake.f k).bind fun t992 => (if t992 = true then (if bt981.2.2.2 = 0 then (if bt987.2.2.2 = 0 then (some (bt981.1 == bt987.1 && (bt981.2.1.toList == bt987.2.1.toList && (bt981.2.2.1.toList == bt987.2.2.1.toList)))) else (some false)) else (some false)) else (some false)))))))
set_option maxHeartbeats 8000000 in
set_option maxRecDepth 100000 in
theorem L6InterestPeriods.calls (k : Nat) (a0 : Int) (A1 : Option Addr) (c1 : Nat) (l1 : List (S52)) (a2 a3 a4 : Int) (r : Bool) (w : World) (hr1 : Kd.C k52 w A1 l1.length l1) (hc1 : l1.length ≤ c1) (H : L6InterestPeriods.f k a0 l1 a2 a3 a4 = some r) :
 Calls Tryz.prog 4 #[.int .u16 a0, .slice A1 l1.length c1, .int .u8 a2, .int .u8 a3, .int .u8 a4] w fun e w' => e = .returned (.bool r) ∧ Below w.heap.size w w' := by
 have hu1 := Tryz.underlying23
 have HR1 := Aside0.mk hr1
 have HC1 := Aside0.mk hc1
 clear hr1 hc1
 have HB := Aside0.mk (Below.refl w.heap.size w)
 unfold L6InterestPeriods.f at H
 replace ⟨t1, A2, H⟩ := bS H
 replace ⟨⟨t2, t3, t4⟩, A3, H⟩ := bS H
 (try dsimp only at H)
 replace ⟨⟨t5, t6, t7, t8⟩, A4, H⟩ := bS H
 (try dsimp only at H)
 replace H := iL H
 rcases H with ⟨c2b0, H⟩ | ⟨c2b0, H⟩
 ·replace ⟨t9, A5, H⟩ := bS H
  by_cases c3 : t9 = true
  ·subst c3
   rw [if_pos rfl] at H
   replace H := iQ H
   rcases H with ⟨c4b0, c4b1, H⟩ | ⟨c4b0, c4b1, H⟩
   ·obtain rfl := sI H
    go_enter Tryz.func4, Tryz.ntmps4
    go_wp2_with (first | (refine gR 20 Tryz.func11 (L0Steps.calls k _ _ l1 t1 _ ?side1 ?side2 A2.out) fun v1 w1 ho0 hb => ?_; (case side1 => exact sC HR1.out); (case side2 => exact HC1.out); have O1 := Aside0.mk (Kd.R_lower ho0 (below_size zH)); replace HB := sB hb; (try clear hb); (try clear ho0)) | (refine gB 22 Tryz.func12 (L0Amount.calls _ _ _ _ _ _ A3.out) fun w2 hb HB => ?_; replace O1 := rB O1 hb; clear hb) | (refine bxZ w 12 23 fun g1 w3 B1 G1 hg hb HB => ?_; replace O1 := rB O1 hb; clear hb hg; obtain ⟨_, _, _, _, _, _⟩ := xB3 B1; obtain ⟨P1, d1, u1⟩ := Kd.R_slice O1.out; subst u1) | (refine gB 39 Tryz.func9 (I1Compound.calls _ _ _ _ _ _ _ _ _ _ _ _ _ _ _ _ ?side1 ?side2 A4.out) fun w4 hb _ => ?_; (case side1 => refine (Kd.R_reads' (e := 29) (base := w.heap.size) (ok := fun k_ => True) (n := t1.length) (c := d1) ?_).2.2; exact zq10); (case side2 => exact (Kd.R_reads' O1.out).2.1); replace O1 := Aside0.mk (Kd.R_below zq10 hb); replace B1 := bV B1 hb; replace HB := sB hb; (try clear hb)) | (refine bxZ w 15 23 fun g2 w5 B2 G2 hg hb HB => ?_; obtain ⟨N1, N2⟩ := nP B1 hg; replace O1 := rB O1 hb; replace B1 := bB B1 hb; clear hb hg; have m1 := N2; have n1 := N1; obtain ⟨_, _, _, _, _, _⟩ := xB3 B2) | (refine gB 47 Tryz.func7 (L6awake.calls k  true _ A5.out) fun w6 hb _ => ?_; replace O1 := Aside0.mk (Kd.R_below zq13 hb); replace B1 := bV B1 hb; replace B2 := bV B2 hb; replace HB := sB hb; (try clear hb); obtain ⟨_, _, _, _, _, _⟩ := xB3 B2))
    go_ret
    exact ⟨zE, zH⟩
   ·obtain rfl := sI H
    go_enter Tryz.func4, Tryz.ntmps4
    go_wp2_with (first | (refine gR 20 Tryz.func11 (L0Steps.calls k _ _ l1 t1 _ ?side1 ?side2 A2.out) fun v1 w1 ho0 hb => ?_; (case side1 => exact sC HR1.out); (case side2 => exact HC1.out); have O1 := Aside0.mk (Kd.R_lower ho0 (below_size zH)); replace HB := sB hb; (try clear hb); (try clear ho0)) | (refine gB 22 Tryz.func12 (L0Amount.calls _ _ _ _ _ _ A3.out) fun w2 hb HB => ?_; replace O1 := rB O1 hb; clear hb) | (refine bxZ w 12 23 fun g1 w3 B1 G1 hg hb HB => ?_; replace O1 := rB O1 hb; clear hb hg; obtain ⟨_, _, _, _, _, _⟩ := xB3 B1; obtain ⟨P1, d1, u1⟩ := Kd.R_slice O1.out; subst u1) | (refine gB 39 Tryz.func9 (I1Compound.calls _ _ _ _ _ _ _ _ _ _ _ _ _ _ _ _ ?side1 ?side2 A4.out) fun w4 hb _ => ?_; (case side1 => refine (Kd.R_reads' (e := 29) (base := w.heap.size) (ok := fun k_ => True) (n := t1.length) (c := d1) ?_).2.2; exact zq10); (case side2 => exact (Kd.R_reads' O1.out).2.1); replace O1 := Aside0.mk (Kd.R_below zq10 hb); replace B1 := bV B1 hb; replace HB := sB hb; (try clear hb)) | (refine bxZ w 15 23 fun g2 w5 B2 G2 hg hb HB => ?_; obtain ⟨N1, N2⟩ := nP B1 hg; replace O1 := rB O1 hb; replace B1 := bB B1 hb; clear hb hg; have m1 := N2; have n1 := N1; obtain ⟨_, _, _, _, _, _⟩ := xB3 B2) | (refine gB 47 Tryz.func7 (L6awake.calls k  true _ A5.out) fun w6 hb _ => ?_; replace O1 := Aside0.mk (Kd.R_below zq13 hb); replace B1 := bV B1 hb; replace B2 := bV B2 hb; replace HB := sB hb; (try clear hb)))
    go_ret
    exact ⟨zE, zH⟩
  ·replace c3 := Bool.eq_false_iff.mpr c3
   subst c3
   rw [if_neg (show ¬ (false = true) by decide)] at H
   obtain rfl := sI H
   go_enter Tryz.func4, Tryz.ntmps4
   go_wp2_with (first | (refine gR 20 Tryz.func11 (L0Steps.calls k _ _ l1 t1 _ ?side1 ?side2 A2.out) fun v1 w1 ho0 hb => ?_; (case side1 => exact sC HR1.out); (case side2 => exact HC1.out); have O1 := Aside0.mk (Kd.R_lower ho0 (below_size zH)); replace HB := sB hb; (try clear hb); (try clear ho0)) | (refine gB 22 Tryz.func12 (L0Amount.calls _ _ _ _ _ _ A3.out) fun w2 hb HB => ?_; replace O1 := rB O1 hb; clear hb) | (refine bxZ w 12 23 fun g1 w3 B1 G1 hg hb HB => ?_; replace O1 := rB O1 hb; clear hb hg; obtain ⟨_, _, _, _, _, _⟩ := xB3 B1; obtain ⟨P1, d1, u1⟩ := Kd.R_slice O1.out; subst u1) | (refine gB 39 Tryz.func9 (I1Compound.calls _ _ _ _ _ _ _ _ _ _ _ _ _ _ _ _ ?side1 ?side2 A4.out) fun w4 hb _ => ?_; (case side1 => refine (Kd.R_reads' (e := 29) (base := w.heap.size) (ok := fun k_ => True) (n := t1.length) (c := d1) ?_).2.2; exact zq10); (case side2 => exact (Kd.R_reads' O1.out).2.1); replace O1 := Aside0.mk (Kd.R_below zq10 hb); replace B1 := bV B1 hb; replace HB := sB hb; (try clear hb)) | (refine bxZ w 15 23 fun g2 w5 B2 G2 hg hb HB => ?_; obtain ⟨N1, N2⟩ := nP B1 hg; replace O1 := rB O1 hb; replace B1 := bB B1 hb; clear hb hg; have m1 := N2; have n1 := N1; obtain ⟨_, _, _, _, _, _⟩ := xB3 B2) | (refine gB 47 Tryz.func7 (L6awake.calls _ _ _ A5.out) fun w6 hb _ => ?_; replace O1 := Aside0.mk (Kd.R_below zq13 hb); replace B1 := bV B1 hb; replace B2 := bV B2 hb; replace HB := sB hb; (try clear hb)))
   go_ret
   exact ⟨zE, zH⟩
 ·replace ⟨⟨t9, t10, t11, t12⟩, A5, H⟩ := bS H
  (try dsimp only at H)
  replace ⟨t13, A6, H⟩ := bS H
  by_cases c3 : t13 = true
  ·subst c3
   rw [if_pos rfl] at H
   replace H := iQ H
   rcases H with ⟨c4b0, c4b1, H⟩ | ⟨c4b0, c4b1, H⟩
   ·replace H := iQ H
    rcases H with ⟨c5b0, c5b1, H⟩ | ⟨c5b0, c5b1, H⟩
    ·obtain rfl := sI H
     go_enter Tryz.func4, Tryz.ntmps4
     go_wp2_with (first | (refine gR 20 Tryz.func11 (L0Steps.calls k _ _ l1 t1 _ ?side1 ?side2 A2.out) fun v1 w1 ho0 hb => ?_; (case side1 => exact sC HR1.out); (case side2 => exact HC1.out); have O1 := Aside0.mk (Kd.R_lower ho0 (below_size zH)); replace HB := sB hb; (try clear hb); (try clear ho0)) | (refine gB 22 Tryz.func12 (L0Amount.calls _ _ _ _ _ _ A3.out) fun w2 hb HB => ?_; replace O1 := rB O1 hb; clear hb) | (refine bxZ w 12 23 fun g1 w3 B1 G1 hg hb HB => ?_; replace O1 := rB O1 hb; clear hb hg; obtain ⟨_, _, _, _, _, _⟩ := xB3 B1; obtain ⟨P1, d1, u1⟩ := Kd.R_slice O1.out; subst u1) | (refine gB 39 Tryz.func9 (I1Compound.calls _ _ _ _ _ _ _ _ _ _ _ _ _ _ _ _ ?side1 ?side2 A4.out) fun w4 hb _ => ?_; (case side1 => refine (Kd.R_reads' (e := 29) (base := w.heap.size) (ok := fun k_ => True) (n := t1.length) (c := d1) ?_).2.2; exact zq10); (case side2 => exact (Kd.R_reads' O1.out).2.1); replace O1 := Aside0.mk (Kd.R_below zq10 hb); replace B1 := bV B1 hb; replace HB := sB hb; (try clear hb)) | (refine bxZ w 15 23 fun g2 w5 B2 G2 hg hb HB => ?_; obtain ⟨N1, N2⟩ := nP B1 hg; replace O1 := rB O1 hb; replace B1 := bB B1 hb; clear hb hg; have m1 := N2; have n1 := N1; obtain ⟨_, _, _, _, _, _⟩ := xB3 B2; obtain ⟨_, _, _, _, _, _⟩ := xB3 B1) | (refine gB 64 Tryz.func10 (R1Compound.calls _ _ _ _ _ _ _ _ _ _ _ _ _ _ _ _ ?side1 ?side2 A5.out) fun w6 hb _ => ?_; (case side1 => refine (Kd.R_reads' (e := 29) (base := w.heap.size) (ok := fun k_ => True) (n := t1.length) (c := d1) ?_).2.2; exact zq13); (case side2 => exact (Kd.R_reads' O1.out).2.1); replace O1 := Aside0.mk (Kd.R_below zq13 hb); replace B1 := bV B1 hb; replace B2 := bV B2 hb; replace HB := sB hb; (try clear hb)) | (refine bxZ w 17 23 fun g3 w7 B3 G3 hg hb HB => ?_; obtain ⟨N3, N4⟩ := nP B1 hg; obtain ⟨N5, N6⟩ := nP B2 hg; replace O1 := rB O1 hb; replace B1 := bB B1 hb; replace B2 := bB B2 hb; clear hb hg; have m2 := N4; have n2 := N3; have m3 := N6; have n3 := N5; obtain ⟨_, _, _, _, _, _⟩ := xB3 B3) | (refine gB 67 Tryz.func7 (L6awake.calls k  true _ A6.out) fun w8 hb _ => ?_; replace O1 := Aside0.mk (Kd.R_below zq48 hb); replace B1 := bV B1 hb; replace B2 := bV B2 hb; replace B3 := bV B3 hb; replace HB := sB hb; (try clear hb); obtain ⟨_, _, _, _, _, _⟩ := xB3 B2; obtain ⟨_, _, _, _, _, _⟩ := xB3 B3))
     go_ret
     exact ⟨zE, zH⟩
    ·obtain rfl := sI H
     go_enter Tryz.func4, Tryz.ntmps4
     go_wp2_with (first | (refine gR 20 Tryz.func11 (L0Steps.calls k _ _ l1 t1 _ ?side1 ?side2 A2.out) fun v1 w1 ho0 hb => ?_; (case side1 => exact sC HR1.out); (case side2 => exact HC1.out); have O1 := Aside0.mk (Kd.R_lower ho0 (below_size zH)); replace HB := sB hb; (try clear hb); (try clear ho0)) | (refine gB 22 Tryz.func12 (L0Amount.calls _ _ _ _ _ _ A3.out) fun w2 hb HB => ?_; replace O1 := rB O1 hb; clear hb) | (refine bxZ w 12 23 fun g1 w3 B1 G1 hg hb HB => ?_; replace O1 := rB O1 hb; clear hb hg; obtain ⟨_, _, _, _, _, _⟩ := xB3 B1; obtain ⟨P1, d1, u1⟩ := Kd.R_slice O1.out; subst u1) | (refine gB 39 Tryz.func9 (I1Compound.calls _ _ _ _ _ _ _ _ _ _ _ _ _ _ _ _ ?side1 ?side2 A4.out) fun w4 hb _ => ?_; (case side1 => refine (Kd.R_reads' (e := 29) (base := w.heap.size) (ok := fun k_ => True) (n := t1.length) (c := d1) ?_).2.2; exact zq10); (case side2 => exact (Kd.R_reads' O1.out).2.1); replace O1 := Aside0.mk (Kd.R_below zq10 hb); replace B1 := bV B1 hb; replace HB := sB hb; (try clear hb)) | (refine bxZ w 15 23 fun g2 w5 B2 G2 hg hb HB => ?_; obtain ⟨N1, N2⟩ := nP B1 hg; replace O1 := rB O1 hb; replace B1 := bB B1 hb; clear hb hg; have m1 := N2; have n1 := N1; obtain ⟨_, _, _, _, _, _⟩ := xB3 B2; obtain ⟨_, _, _, _, _, _⟩ := xB3 B1) | (refine gB 64 Tryz.func10 (R1Compound.calls _ _ _ _ _ _ _ _ _ _ _ _ _ _ _ _ ?side1 ?side2 A5.out) fun w6 hb _ => ?_; (case side1 => refine (Kd.R_reads' (e := 29) (base := w.heap.size) (ok := fun k_ => True) (n := t1.length) (c := d1) ?_).2.2; exact zq13); (case side2 => exact (Kd.R_reads' O1.out).2.1); replace O1 := Aside0.mk (Kd.R_below zq13 hb); replace B1 := bV B1 hb; replace B2 := bV B2 hb; replace HB := sB hb; (try clear hb)) | (refine bxZ w 17 23 fun g3 w7 B3 G3 hg hb HB => ?_; obtain ⟨N3, N4⟩ := nP B1 hg; obtain ⟨N5, N6⟩ := nP B2 hg; replace O1 := rB O1 hb; replace B1 := bB B1 hb; replace B2 := bB B2 hb; clear hb hg; have m2 := N4; have n2 := N3; have m3 := N6; have n3 := N5; obtain ⟨_, _, _, _, _, _⟩ := xB3 B3) | (refine gB 67 Tryz.func7 (L6awake.calls k  true _ A6.out) fun w8 hb _ => ?_; replace O1 := Aside0.mk (Kd.R_below zq48 hb); replace B1 := bV B1 hb; replace B2 := bV B2 hb; replace B3 := bV B3 hb; replace HB := sB hb; (try clear hb)))
     go_ret
     exact ⟨zE, zH⟩
   ·obtain rfl := sI H
    go_enter Tryz.func4, Tryz.ntmps4
    go_wp2_with (first | (refine gR 20 Tryz.func11 (L0Steps.calls k _ _ l1 t1 _ ?side1 ?side2 A2.out) fun v1 w1 ho0 hb => ?_; (case side1 => exact sC HR1.out); (case side2 => exact HC1.out); have O1 := Aside0.mk (Kd.R_lower ho0 (below_size zH)); replace HB := sB hb; (try clear hb); (try clear ho0)) | (refine gB 22 Tryz.func12 (L0Amount.calls _ _ _ _ _ _ A3.out) fun w2 hb HB => ?_; replace O1 := rB O1 hb; clear hb) | (refine bxZ w 12 23 fun g1 w3 B1 G1 hg hb HB => ?_; replace O1 := rB O1 hb; clear hb hg; obtain ⟨_, _, _, _, _, _⟩ := xB3 B1; obtain ⟨P1, d1, u1⟩ := Kd.R_slice O1.out; subst u1) | (refine gB 39 Tryz.func9 (I1Compound.calls _ _ _ _ _ _ _ _ _ _ _ _ _ _ _ _ ?side1 ?side2 A4.out) fun w4 hb _ => ?_; (case side1 => refine (Kd.R_reads' (e := 29) (base := w.heap.size) (ok := fun k_ => True) (n := t1.length) (c := d1) ?_).2.2; exact zq10); (case side2 => exact (Kd.R_reads' O1.out).2.1); replace O1 := Aside0.mk (Kd.R_below zq10 hb); replace B1 := bV B1 hb; replace HB := sB hb; (try clear hb)) | (refine bxZ w 15 23 fun g2 w5 B2 G2 hg hb HB => ?_; obtain ⟨N1, N2⟩ := nP B1 hg; replace O1 := rB O1 hb; replace B1 := bB B1 hb; clear hb hg; have m1 := N2; have n1 := N1; obtain ⟨_, _, _, _, _, _⟩ := xB3 B2; obtain ⟨_, _, _, _, _, _⟩ := xB3 B1) | (refine gB 64 Tryz.func10 (R1Compound.calls _ _ _ _ _ _ _ _ _ _ _ _ _ _ _ _ ?side1 ?side2 A5.out) fun w6 hb _ => ?_; (case side1 => refine (Kd.R_reads' (e := 29) (base := w.heap.size) (ok := fun k_ => True) (n := t1.length) (c := d1) ?_).2.2; exact zq13); (case side2 => exact (Kd.R_reads' O1.out).2.1); replace O1 := Aside0.mk (Kd.R_below zq13 hb); replace B1 := bV B1 hb; replace B2 := bV B2 hb; replace HB := sB hb; (try clear hb)) | (refine bxZ w 17 23 fun g3 w7 B3 G3 hg hb HB => ?_; obtain ⟨N3, N4⟩ := nP B1 hg; obtain ⟨N5, N6⟩ := nP B2 hg; replace O1 := rB O1 hb; replace B1 := bB B1 hb; replace B2 := bB B2 hb; clear hb hg; have m2 := N4; have n2 := N3; have m3 := N6; have n3 := N5; obtain ⟨_, _, _, _, _, _⟩ := xB3 B3) | (refine gB 67 Tryz.func7 (L6awake.calls k  true _ A6.out) fun w8 hb _ => ?_; replace O1 := Aside0.mk (Kd.R_below zq48 hb); replace B1 := bV B1 hb; replace B2 := bV B2 hb; replace B3 := bV B3 hb; replace HB := sB hb; (try clear hb)))
    go_ret
    exact ⟨zE, zH⟩
  ·replace c3 := Bool.eq_false_iff.mpr c3
   subst c3
   rw [if_neg (show ¬ (false = true) by decide)] at H
   obtain rfl := sI H
   go_enter Tryz.func4, Tryz.ntmps4
   go_wp2_with (first | (refine gR 20 Tryz.func11 (L0Steps.calls k _ _ l1 t1 _ ?side1 ?side2 A2.out) fun v1 w1 ho0 hb => ?_; (case side1 => exact sC HR1.out); (case side2 => exact HC1.out); have O1 := Aside0.mk (Kd.R_lower ho0 (below_size zH)); replace HB := sB hb; (try clear hb); (try clear ho0)) | (refine gB 22 Tryz.func12 (L0Amount.calls _ _ _ _ _ _ A3.out) fun w2 hb HB => ?_; replace O1 := rB O1 hb; clear hb) | (refine bxZ w 12 23 fun g1 w3 B1 G1 hg hb HB => ?_; replace O1 := rB O1 hb; clear hb hg; obtain ⟨_, _, _, _, _, _⟩ := xB3 B1; obtain ⟨P1, d1, u1⟩ := Kd.R_slice O1.out; subst u1) | (refine gB 39 Tryz.func9 (I1Compound.calls _ _ _ _ _ _ _ _ _ _ _ _ _ _ _ _ ?side1 ?side2 A4.out) fun w4 hb _ => ?_; (case side1 => refine (Kd.R_reads' (e := 29) (base := w.heap.size) (ok := fun k_ => True) (n := t1.length) (c := d1) ?_).2.2; exact zq10); (case side2 => exact (Kd.R_reads' O1.out).2.1); replace O1 := Aside0.mk (Kd.R_below zq10 hb); replace B1 := bV B1 hb; replace HB := sB hb; (try clear hb)) | (refine bxZ w 15 23 fun g2 w5 B2 G2 hg hb HB => ?_; obtain ⟨N1, N2⟩ := nP B1 hg; replace O1 := rB O1 hb; replace B1 := bB B1 hb; clear hb hg; have m1 := N2; have n1 := N1; obtain ⟨_, _, _, _, _, _⟩ := xB3 B2; obtain ⟨_, _, _, _, _, _⟩ := xB3 B1) | (refine gB 64 Tryz.func10 (R1Compound.calls _ _ _ _ _ _ _ _ _ _ _ _ _ _ _ _ ?side1 ?side2 A5.out) fun w6 hb _ => ?_; (case side1 => refine (Kd.R_reads' (e := 29) (base := w.heap.size) (ok := fun k_ => True) (n := t1.length) (c := d1) ?_).2.2; exact zq13); (case side2 => exact (Kd.R_reads' O1.out).2.1); replace O1 := Aside0.mk (Kd.R_below zq13 hb); replace B1 := bV B1 hb; replace B2 := bV B2 hb; replace HB := sB hb; (try clear hb)) | (refine bxZ w 17 23 fun g3 w7 B3 G3 hg hb HB => ?_; obtain ⟨N3, N4⟩ := nP B1 hg; obtain ⟨N5, N6⟩ := nP B2 hg; replace O1 := rB O1 hb; replace B1 := bB B1 hb; replace B2 := bB B2 hb; clear hb hg; have m2 := N4; have n2 := N3; have m3 := N6; have n3 := N5; obtain ⟨_, _, _, _, _, _⟩ := xB3 B3) | (refine gB 67 Tryz.func7 (L6awake.calls _ _ _ A6.out) fun w8 hb _ => ?_; replace O1 := Aside0.mk (Kd.R_below zq48 hb); replace B1 := bV B1 hb; replace B2 := bV B2 hb; replace B3 := bV B3 hb; replace HB := sB hb; (try clear hb)))
   go_ret
   exact ⟨zE, zH⟩
end Go.Proofs.YtggfilmdfpmbmaaGreatDoor.QN
end
