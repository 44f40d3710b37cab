/-
  Steps and laws behind the statement that the claim's last text proves: the words of the walks, the walks of the Go functions (printed by a program of this session's own, then shortened by one), and what they compute. Conditions: stated at each theorem.
-/
import Derived.Test.YtggfilmdfpmbmaaDoorP5
import Derived.Test.YtggfilmdfpmbmaaDoorP11
import Derived.Test.YtggfilmdfpmbmaaDoorP12
import Derived.Test.YtggfilmdfpmbmaaDoorP0
section
namespace Go.Proofs.YtggfilmdfpmbmaaDoor.QN
open Go.RowKit Go.Proofs.YtggfilmdfpmbmaaDoorW.PrintWords Go.Proofs.YtggfilmdfpmbmaaDoorW.PrintLast Go.Proofs.YtggfilmdfpmbmaaDoorW.PrintMore
attribute [local go_sem] max2_int min2_int max_two min_two max_three min_three max_four min_four
set_option linter.unusedVariables false
set_option linter.unusedSimpArgs false
attribute [local go_sem high] eqA29
def L6awake.f (k : Nat)  : Option (Bool) := (L0Ratio.f k 1 10).bind fun bt942 => ((some (([(⟨0, (⟨bt942.1, bt942.2.1, bt942.2.2⟩ : S29)⟩ : S54)] : List (S54)) : List (S54))).bind fun y945 => ((L0Whole.f k 36500).bind fun bt948 => ((I1Simple.f k bt948.1 bt948.2.1 bt948.2.2 y945 10 40 365).bind fun bt952 => ((I1Compound.f k bt948.1 bt948.2.1 bt948.2.2 y945 10 40 365 15).bind fun bt957 => (if bt952.2.2.2 = 0 then ((L0Whole.f k 300).bind fun bt962 => (if (bt952.1 == bt962.1 && (bt952.2.1.toList == bt962.2.1.toList && (bt952.2.2.1.toList == bt962.2.2.toList))) = true then (if bt957.2.2.2 = 0 then ((L0Ratio.f k 21945 73).bind fun bt965 => (some (bt957.1 == bt965.1 && (bt957.2.1.toList == bt965.2.1.toList && (bt957.2.2.1.toList == bt965.2.2.toList))))) else (some false)) else (some false))) else (some false))))))
def L6awake.T5 : Bool × List (List Nat × List Nat) := (true, [([], []), ([0], [0]), ([1], [1]), ([2], [2]), ([2, 2], [2]), ([3, 4, 2], [2, 3, 4]), ([2, 5], [2, 5]), ([6, 4], [6]), ([7], [7]), ([8, 7], [7, 8]), ([7, 9], [7, 9]), ([10, 7], [10]), ([11], [11]), ([11, 11], [11]), ([12, 13, 11], [11, 12, 13]), ([11, 14], [11, 14]), ([15, 13, 0, 1, 2, 3, 4, 5, 6, 7, 8, 9, 10, 11, 12, 13, 14, 15], [15])])
def L6awake.B5 : List Nat := [0, 1, 3, 7, 7, 31, 63, 127, 255, 511, 1023, 2047, 4095, 4095, 16383, 32767, 65535]
theorem L6awake.tab5 : rtab .any (opsOf Tryd.f11 5) = L6awake.T5 := by kernel_rfl
theorem L6awake.bits5 : waitsOk L6awake.T5.2 L6awake.B5 = true := by kernel_rfl
set_option maxHeartbeats 8000000 in
set_option maxRecDepth 100000 in
theorem L6awake.calls (k : Nat)  (r : Bool) (w : World) (H : L6awake.f k  = some r) :
 Calls Tryd.prog 11 #[] w fun e w' => e = .returned (.bool r) ∧ Below w.heap.size w w' := by
 have hu1 := Tryd.underlying54
 have hu2 := Tryd.underlying29
 have HB := Aside0.mk (Below.refl w.heap.size w)
 unfold L6awake.f at H
 obtain ⟨⟨t1, t2, t3⟩, A1, H⟩ := bS H
 (try dsimp only at H)
 obtain ⟨y1, yh1⟩ : ∃ y_ : List (S54), y_ = (([(⟨0, (⟨t1, t2, t3⟩ : S29)⟩ : S54)] : List (S54))) := ⟨_, rfl⟩
 (try rw [Option.bind_some] at H); (try rw [← yh1] at H)
 have Y1 := Aside0.mk yh1
 clear yh1
 obtain ⟨⟨t4, t5, t6⟩, A2, H⟩ := bS H
 (try dsimp only at H)
 obtain ⟨⟨t7, t8, t9, t10⟩, A3, H⟩ := bS H
 (try dsimp only at H)
 obtain ⟨⟨t11, t12, t13, t14⟩, A4, H⟩ := bS H
 (try dsimp only at H)
 rcases iQ H with ⟨c1b0, c1b1, H⟩ | ⟨c1b0, c1b1, H⟩
 ·obtain ⟨⟨t15, t16, t17⟩, A5, H⟩ := bS H
  (try dsimp only at H)
  by_cases c2 : (t7 == t15 && (t8.toList == t16.toList && (t9.toList == t17.toList))) = true
  ·rw [if_pos c2] at H
   have c2b0 : (t7 == t15 && (t8.toList == t16.toList && (t9.toList == t17.toList))) = true := c2
   (try (have c2b1 : decide (t7 = t15 && (t8.toList == t16.toList && (t9.toList == t17.toList))) = true := by simpa using c2))
   (try (have c2b2 : (t7 == t15 && (t8.toList == t16.toList && (t9.toList == t17.toList))) = true := by simpa using c2))
   clear c2
   rcases iQ H with ⟨c3b0, c3b1, H⟩ | ⟨c3b0, c3b1, H⟩
   ·obtain ⟨⟨t18, t19, t20⟩, A6, H⟩ := bS H
    (try dsimp only at H)
    obtain rfl := sI H
    go_enter Tryd.func11, Tryd.ntmps11
    try go_wp2_with (first | (refine gB 7 Tryd.func27 (L0Ratio.calls _ _ _ _ _ _ _ A1.out) fun w1 hb => ?_; replace HB := sB hb; (try clear hb)) | ((with_reducible refine gate_dst (N := 9) rfl ?_); refine Kd.R_lit k54 _ 54 ?hg (N := 9) ?hd (xs := ([(⟨0, (⟨t1, t2, t3⟩ : S29)⟩ : S54)] : List (S54))) (inner := [.int .i64 0, .bool t1, .string t2, .string t3]) (ok := fun _ => True) (okp := fun _ => True) ?hr ?hp (fun _ hk => hk) trivial (Below.refl _ _) (Nat.le_refl _) (by simp) ?_; (case hd => rfl); (case hg => rfl); (case hr => first | (go_simp; done) | (go_simp; rfl)); (case hp => exact (Reps.c4 (show Kd.M k54 _ _ _ (⟨0, (⟨t1, t2, t3⟩ : S29)⟩ : S54) [.int .i64 0, .bool t1, .string t2, .string t3] from (k54_mkM _ _ _ (⟨0, (⟨t1, t2, t3⟩ : S29)⟩ : S54) )) (Reps.none _ _))); intro v1 w2 ho12 hb hg_ hnew_; clear hg_ hnew_; (first | rw [← Y1.out] at ho12 | (simp only [Int.reduceToNat] at ho12; rw [← Y1.out] at ho12)); have O1 := Aside0.mk (Kd.R_lower ho12 (below_size zH)); replace HB := sB hb; clear hb ho12) | (refine gB 10 Tryd.func28 (L0Whole.calls _ _ _ _ _ _ A2.out) fun w3 hb => ?_; replace O1 := rB O1 hb; replace HB := sB hb; (try clear hb)) | (refine bxA w 2 #[.bool false, .string (⟨#[]⟩ : ByteArray), .string (⟨#[]⟩ : ByteArray)] 29 fun g1 w4 B1 G1 hg hb => ?_; replace O1 := rB O1 hb; replace HB := sB hb; clear hb hg; obtain ⟨_, _, _, _, _, _⟩ := xB3 B1; obtain ⟨P1, d1, u1⟩ := Kd.R_slice O1.out; subst u1) | (refine gB 14 Tryd.func15 (I1Simple.calls _ _ _ _ _ _ _ _ _ _ _ _ _ _ _ ?side1 ?side2 A3.out) fun w5 hb => ?_; (case side1 => refine (Kd.R_reads' (e := 54) (base := w.heap.size) (ok := fun k_ => True) (n := y1.length) (c := d1) ?_).2.2; exact zq11); (case side2 => exact (Kd.R_reads' O1.out).2.1); replace O1 := Aside0.mk (Kd.R_below zq11 hb); replace B1 := Aside0.mk (blk_below (bC B1) hb); replace HB := sB hb; (try clear hb)) | (refine bxA w 3 #[.bool false, .string (⟨#[]⟩ : ByteArray), .string (⟨#[]⟩ : ByteArray)] 29 fun g2 w6 B2 G2 hg hb => ?_; have N1 := Aside0.mk (nL B1 hg); have N2 := Aside0.mk (nG B1 hg); replace O1 := rB O1 hb; replace B1 := bB B1 hb; replace HB := sB hb; clear hb hg; have m1 := N2.out; have n1 := N1.out; obtain ⟨_, _, _, _, _, _⟩ := xB3 B2; obtain ⟨_, _, _, _, _, _⟩ := xB3 B1) | (refine gB 20 Tryd.func21 (I1Compound.calls _ _ _ _ _ _ _ _ _ _ _ _ _ _ _ _ ?side1 ?side2 A4.out) fun w7 hb => ?_; (case side1 => refine (Kd.R_reads' (e := 54) (base := w.heap.size) (ok := fun k_ => True) (n := y1.length) (c := d1) ?_).2.2; exact zq12); (case side2 => exact (Kd.R_reads' O1.out).2.1); replace O1 := Aside0.mk (Kd.R_below zq12 hb); replace B1 := Aside0.mk (blk_below (bC B1) hb); replace B2 := Aside0.mk (blk_below (bC B2) hb); replace HB := sB hb; (try clear hb)) | (refine bxA w 5 #[.bool false, .string (⟨#[]⟩ : ByteArray), .string (⟨#[]⟩ : ByteArray)] 29 fun g3 w8 B3 G3 hg hb => ?_; have N3 := Aside0.mk (nL B1 hg); have N4 := Aside0.mk (nG B1 hg); have N5 := Aside0.mk (nL B2 hg); have N6 := Aside0.mk (nG B2 hg); replace O1 := rB O1 hb; replace B1 := bB B1 hb; replace B2 := bB B2 hb; replace HB := sB hb; clear hb hg; have m2 := N4.out; have n2 := N3.out; have m3 := N6.out; have n3 := N5.out; obtain ⟨_, _, _, _, _, _⟩ := xB3 B3))
    generalize hW_ : (((w8.setCell ⟨g3, 0, none⟩ (.bool t11)).setCell ⟨g3, 1, none⟩ (.string t12)).setCell ⟨g3, 2, none⟩ (.string t13)) = w9
    replace O1 : Aside0 (Kd.R k54 54 w9 w.heap.size (fun _ => True) (.slice P1 y1.length d1) y1) := ⟨by subst hW_; (with_reducible repeat (first | apply Kd.R_alloc | apply Kd.R_drewN | apply Kd.R_drew)); exact Kd.R_mono (Kd.R_far (p := ⟨g3, 2, none⟩) (Kd.R_far (p := ⟨g3, 1, none⟩) (Kd.R_far (p := ⟨g3, 0, none⟩) (Kd.R_types O1.out B3.out (by decide)) (fun _ hk => hk.2) (.bool t11)) (fun _ hk => hk.2) (.string t12)) (fun _ hk => hk.2) (.string t13)) (fun _ hk => trivial)⟩
    replace B1 : Aside0 (w9.heap[g1]? = some (.cells #[.bool t4, .string t5, .string t6] 29 (0, 0))) := bG hW_ B1
    replace B2 : Aside0 (w9.heap[g2]? = some (.cells #[.bool t7, .string t8, .string t9] 29 (0, 0))) := bG hW_ B2
    replace B3 : Aside0 (w9.heap[g3]? = some (.cells #[.bool t11, .string t12, .string t13] 29 (0, 0))) := bG hW_ B3
    replace HB := hG hW_
    clear hW_
    replace O1 := rD O1
    replace B1 := bD B1
    replace B2 := bD B2
    replace B3 := bD B3
    replace HB := hD HB
    refine startA 17 (S := fun w' => w'.cell? ⟨g2, 0, none⟩ = some (.bool t7) ∧ w'.cell? ⟨g2, 1, none⟩ = some (.string t8) ∧ w'.cell? ⟨g2, 2, none⟩ = some (.string t9) ∧ w'.cell? ⟨g3, 0, none⟩ = some (.bool t11) ∧ w'.cell? ⟨g3, 1, none⟩ = some (.string t12) ∧ w'.cell? ⟨g3, 2, none⟩ = some (.string t13)) (ds := []) zK (fun hHeld => ?_); refine with_tabW L6awake.tab5 L6awake.bits5 (fun HT_ HW_ => ?_)
    generalize w9.drew = w10 at O1 B1 B2 B3 HB hHeld ⊢
    refine pA 0 1 ?_
    refine pA 1 3 ?_
    refine pA 2 7 ?_
    refine tA 3 15 hHeld ?_
    refine rcB 4 31 Tryd.func28 (L0Whole.calls _ _ _ _ _ _ A5.out) hHeld br fun w11 hb hHeld => ?_
    refine pA 5 63 ?_
    refine pA 6 127 ?_
    refine pA 7 255 ?_
    refine pA 8 511 ?_
    refine pA 9 1023 ?_
    refine pA 10 2047 ?_
    refine pA 11 4095 ?_
    refine tA 12 8191 hHeld ?_
    refine rcB 13 16383 Tryd.func27 (L0Ratio.calls _ _ _ _ _ _ _ A6.out) hHeld hb fun w12 hb hHeld => ?_
    refine pA 14 32767 ?_
    refine pA 15 65535 ?_
    refine pA 16 131071 ?_
    replace O1 := rB O1 hb
    replace B1 := bB B1 hb
    replace B2 := bB B2 hb
    replace B3 := bB B3 hb
    replace HB := sB hb
    clear hb
    refine done_ (done_of HT_.out (by kernel_rfl)) ?_
    try go_wp2
    go_ret
    exact ⟨zE, zH⟩
   ·obtain rfl := sI H
    go_enter Tryd.func11, Tryd.ntmps11
    try go_wp2_with (first | (refine gB 7 Tryd.func27 (L0Ratio.calls _ _ _ _ _ _ _ A1.out) fun w1 hb => ?_; replace HB := sB hb; (try clear hb)) | ((with_reducible refine gate_dst (N := 9) rfl ?_); refine Kd.R_lit k54 _ 54 ?hg (N := 9) ?hd (xs := ([(⟨0, (⟨t1, t2, t3⟩ : S29)⟩ : S54)] : List (S54))) (inner := [.int .i64 0, .bool t1, .string t2, .string t3]) (ok := fun _ => True) (okp := fun _ => True) ?hr ?hp (fun _ hk => hk) trivial (Below.refl _ _) (Nat.le_refl _) (by simp) ?_; (case hd => rfl); (case hg => rfl); (case hr => first | (go_simp; done) | (go_simp; rfl)); (case hp => exact (Reps.c4 (show Kd.M k54 _ _ _ (⟨0, (⟨t1, t2, t3⟩ : S29)⟩ : S54) [.int .i64 0, .bool t1, .string t2, .string t3] from (k54_mkM _ _ _ (⟨0, (⟨t1, t2, t3⟩ : S29)⟩ : S54) )) (Reps.none _ _))); intro v1 w2 ho33 hb hg_ hnew_; clear hg_ hnew_; (first | rw [← Y1.out] at ho33 | (simp only [Int.reduceToNat] at ho33; rw [← Y1.out] at ho33)); have O1 := Aside0.mk (Kd.R_lower ho33 (below_size zH)); replace HB := sB hb; clear hb ho33) | (refine gB 10 Tryd.func28 (L0Whole.calls _ _ _ _ _ _ A2.out) fun w3 hb => ?_; replace O1 := rB O1 hb; replace HB := sB hb; (try clear hb)) | (refine bxA w 2 #[.bool false, .string (⟨#[]⟩ : ByteArray), .string (⟨#[]⟩ : ByteArray)] 29 fun g1 w4 B1 G1 hg hb => ?_; replace O1 := rB O1 hb; replace HB := sB hb; clear hb hg; obtain ⟨_, _, _, _, _, _⟩ := xB3 B1; obtain ⟨P1, d1, u1⟩ := Kd.R_slice O1.out; subst u1) | (refine gB 14 Tryd.func15 (I1Simple.calls _ _ _ _ _ _ _ _ _ _ _ _ _ _ _ ?side1 ?side2 A3.out) fun w5 hb => ?_; (case side1 => refine (Kd.R_reads' (e := 54) (base := w.heap.size) (ok := fun k_ => True) (n := y1.length) (c := d1) ?_).2.2; exact zq11); (case side2 => exact (Kd.R_reads' O1.out).2.1); replace O1 := Aside0.mk (Kd.R_below zq11 hb); replace B1 := Aside0.mk (blk_below (bC B1) hb); replace HB := sB hb; (try clear hb)) | (refine bxA w 3 #[.bool false, .string (⟨#[]⟩ : ByteArray), .string (⟨#[]⟩ : ByteArray)] 29 fun g2 w6 B2 G2 hg hb => ?_; have N1 := Aside0.mk (nL B1 hg); have N2 := Aside0.mk (nG B1 hg); replace O1 := rB O1 hb; replace B1 := bB B1 hb; replace HB := sB hb; clear hb hg; have m1 := N2.out; have n1 := N1.out; obtain ⟨_, _, _, _, _, _⟩ := xB3 B2; obtain ⟨_, _, _, _, _, _⟩ := xB3 B1) | (refine gB 20 Tryd.func21 (I1Compound.calls _ _ _ _ _ _ _ _ _ _ _ _ _ _ _ _ ?side1 ?side2 A4.out) fun w7 hb => ?_; (case side1 => refine (Kd.R_reads' (e := 54) (base := w.heap.size) (ok := fun k_ => True) (n := y1.length) (c := d1) ?_).2.2; exact zq12); (case side2 => exact (Kd.R_reads' O1.out).2.1); replace O1 := Aside0.mk (Kd.R_below zq12 hb); replace B1 := Aside0.mk (blk_below (bC B1) hb); replace B2 := Aside0.mk (blk_below (bC B2) hb); replace HB := sB hb; (try clear hb)) | (refine bxA w 5 #[.bool false, .string (⟨#[]⟩ : ByteArray), .string (⟨#[]⟩ : ByteArray)] 29 fun g3 w8 B3 G3 hg hb => ?_; have N3 := Aside0.mk (nL B1 hg); have N4 := Aside0.mk (nG B1 hg); have N5 := Aside0.mk (nL B2 hg); have N6 := Aside0.mk (nG B2 hg); replace O1 := rB O1 hb; replace B1 := bB B1 hb; replace B2 := bB B2 hb; replace HB := sB hb; clear hb hg; have m2 := N4.out; have n2 := N3.out; have m3 := N6.out; have n3 := N5.out; obtain ⟨_, _, _, _, _, _⟩ := xB3 B3))
    generalize hW_ : (((w8.setCell ⟨g3, 0, none⟩ (.bool t11)).setCell ⟨g3, 1, none⟩ (.string t12)).setCell ⟨g3, 2, none⟩ (.string t13)) = w9
    replace O1 : Aside0 (Kd.R k54 54 w9 w.heap.size (fun _ => True) (.slice P1 y1.length d1) y1) := ⟨by subst hW_; (with_reducible repeat (first | apply Kd.R_alloc | apply Kd.R_drewN | apply Kd.R_drew)); exact Kd.R_mono (Kd.R_far (p := ⟨g3, 2, none⟩) (Kd.R_far (p := ⟨g3, 1, none⟩) (Kd.R_far (p := ⟨g3, 0, none⟩) (Kd.R_types O1.out B3.out (by decide)) (fun _ hk => hk.2) (.bool t11)) (fun _ hk => hk.2) (.string t12)) (fun _ hk => hk.2) (.string t13)) (fun _ hk => trivial)⟩
    replace B1 : Aside0 (w9.heap[g1]? = some (.cells #[.bool t4, .string t5, .string t6] 29 (0, 0))) := bG hW_ B1
    replace B2 : Aside0 (w9.heap[g2]? = some (.cells #[.bool t7, .string t8, .string t9] 29 (0, 0))) := bG hW_ B2
    replace B3 : Aside0 (w9.heap[g3]? = some (.cells #[.bool t11, .string t12, .string t13] 29 (0, 0))) := bG hW_ B3
    replace HB := hG hW_
    clear hW_
    replace O1 := rD O1
    replace B1 := bD B1
    replace B2 := bD B2
    replace B3 := bD B3
    replace HB := hD HB
    refine startA 17 (S := fun w' => w'.cell? ⟨g2, 0, none⟩ = some (.bool t7) ∧ w'.cell? ⟨g2, 1, none⟩ = some (.string t8) ∧ w'.cell? ⟨g2, 2, none⟩ = some (.string t9)) (ds := []) zK (fun hHeld => ?_); refine with_tabW L6awake.tab5 L6awake.bits5 (fun HT_ HW_ => ?_)
    generalize w9.drew = w10 at O1 B1 B2 B3 HB hHeld ⊢
    refine pA 0 1 ?_
    refine pA 1 3 ?_
    refine pA 2 7 ?_
    refine tA 3 15 hHeld ?_
    refine rcB 4 31 Tryd.func28 (L0Whole.calls _ _ _ _ _ _ A5.out) hHeld br fun w11 hb hHeld => ?_
    refine pA 5 63 ?_
    refine pA 6 127 ?_
    refine pA 7 255 ?_
    refine pA 8 511 ?_
    refine pA 9 1023 ?_
    refine pA 10 2047 ?_
    refine pA 11 4095 ?_
    refine uA 12 8191 ?_
    refine uA 13 16383 ?_
    refine uA 14 32767 ?_
    refine pA 15 65535 ?_
    refine pA 16 131071 ?_
    replace O1 := rB O1 hb
    replace B1 := bB B1 hb
    replace B2 := bB B2 hb
    replace B3 := bB B3 hb
    replace HB := sB hb
    clear hb
    refine done_ (done_of HT_.out (by kernel_rfl)) ?_
    try go_wp2
    go_ret
    exact ⟨zE, zH⟩
  ·rw [if_neg c2] at H
   have c2b0 : (t7 == t15 && (t8.toList == t16.toList && (t9.toList == t17.toList))) = false := by simpa using c2
   (try (have c2b1 : decide (t7 = t15 && (t8.toList == t16.toList && (t9.toList == t17.toList))) = false := by simpa using c2))
   (try (have c2b2 : (t7 == t15 && (t8.toList == t16.toList && (t9.toList == t17.toList))) = false := by simpa using c2))
   (try (have c2b3 : ¬ (t7 = t15 && (t8.toList == t16.toList && (t9.toList == t17.toList))) := by simpa using c2))
   clear c2
   obtain rfl := sI H
   go_enter Tryd.func11, Tryd.ntmps11
   try go_wp2_with (first | (refine gB 7 Tryd.func27 (L0Ratio.calls _ _ _ _ _ _ _ A1.out) fun w1 hb => ?_; replace HB := sB hb; (try clear hb)) | ((with_reducible refine gate_dst (N := 9) rfl ?_); refine Kd.R_lit k54 _ 54 ?hg (N := 9) ?hd (xs := ([(⟨0, (⟨t1, t2, t3⟩ : S29)⟩ : S54)] : List (S54))) (inner := [.int .i64 0, .bool t1, .string t2, .string t3]) (ok := fun _ => True) (okp := fun _ => True) ?hr ?hp (fun _ hk => hk) trivial (Below.refl _ _) (Nat.le_refl _) (by simp) ?_; (case hd => rfl); (case hg => rfl); (case hr => first | (go_simp; done) | (go_simp; rfl)); (case hp => exact (Reps.c4 (show Kd.M k54 _ _ _ (⟨0, (⟨t1, t2, t3⟩ : S29)⟩ : S54) [.int .i64 0, .bool t1, .string t2, .string t3] from (k54_mkM _ _ _ (⟨0, (⟨t1, t2, t3⟩ : S29)⟩ : S54) )) (Reps.none _ _))); intro v1 w2 ho53 hb hg_ hnew_; clear hg_ hnew_; (first | rw [← Y1.out] at ho53 | (simp only [Int.reduceToNat] at ho53; rw [← Y1.out] at ho53)); have O1 := Aside0.mk (Kd.R_lower ho53 (below_size zH)); replace HB := sB hb; clear hb ho53) | (refine gB 10 Tryd.func28 (L0Whole.calls _ _ _ _ _ _ A2.out) fun w3 hb => ?_; replace O1 := rB O1 hb; replace HB := sB hb; (try clear hb)) | (refine bxA w 2 #[.bool false, .string (⟨#[]⟩ : ByteArray), .string (⟨#[]⟩ : ByteArray)] 29 fun g1 w4 B1 G1 hg hb => ?_; replace O1 := rB O1 hb; replace HB := sB hb; clear hb hg; obtain ⟨_, _, _, _, _, _⟩ := xB3 B1; obtain ⟨P1, d1, u1⟩ := Kd.R_slice O1.out; subst u1) | (refine gB 14 Tryd.func15 (I1Simple.calls _ _ _ _ _ _ _ _ _ _ _ _ _ _ _ ?side1 ?side2 A3.out) fun w5 hb => ?_; (case side1 => refine (Kd.R_reads' (e := 54) (base := w.heap.size) (ok := fun k_ => True) (n := y1.length) (c := d1) ?_).2.2; exact zq11); (case side2 => exact (Kd.R_reads' O1.out).2.1); replace O1 := Aside0.mk (Kd.R_below zq11 hb); replace B1 := Aside0.mk (blk_below (bC B1) hb); replace HB := sB hb; (try clear hb)) | (refine bxA w 3 #[.bool false, .string (⟨#[]⟩ : ByteArray), .string (⟨#[]⟩ : ByteArray)] 29 fun g2 w6 B2 G2 hg hb => ?_; have N1 := Aside0.mk (nL B1 hg); have N2 := Aside0.mk (nG B1 hg); replace O1 := rB O1 hb; replace B1 := bB B1 hb; replace HB := sB hb; clear hb hg; have m1 := N2.out; have n1 := N1.out; obtain ⟨_, _, _, _, _, _⟩ := xB3 B2; obtain ⟨_, _, _, _, _, _⟩ := xB3 B1) | (refine gB 20 Tryd.func21 (I1Compound.calls _ _ _ _ _ _ _ _ _ _ _ _ _ _ _ _ ?side1 ?side2 A4.out) fun w7 hb => ?_; (case side1 => refine (Kd.R_reads' (e := 54) (base := w.heap.size) (ok := fun k_ => True) (n := y1.length) (c := d1) ?_).2.2; exact zq12); (case side2 => exact (Kd.R_reads' O1.out).2.1); replace O1 := Aside0.mk (Kd.R_below zq12 hb); replace B1 := Aside0.mk (blk_below (bC B1) hb); replace B2 := Aside0.mk (blk_below (bC B2) hb); replace HB := sB hb; (try clear hb)) | (refine bxA w 5 #[.bool false, .string (⟨#[]⟩ : ByteArray), .string (⟨#[]⟩ : ByteArray)] 29 fun g3 w8 B3 G3 hg hb => ?_; have N3 := Aside0.mk (nL B1 hg); have N4 := Aside0.mk (nG B1 hg); have N5 := Aside0.mk (nL B2 hg); have N6 := Aside0.mk (nG B2 hg); replace O1 := rB O1 hb; replace B1 := bB B1 hb; replace B2 := bB B2 hb; replace HB := sB hb; clear hb hg; have m2 := N4.out; have n2 := N3.out; have m3 := N6.out; have n3 := N5.out; obtain ⟨_, _, _, _, _, _⟩ := xB3 B3))
   generalize hW_ : (((w8.setCell ⟨g3, 0, none⟩ (.bool t11)).setCell ⟨g3, 1, none⟩ (.string t12)).setCell ⟨g3, 2, none⟩ (.string t13)) = w9
   replace O1 : Aside0 (Kd.R k54 54 w9 w.heap.size (fun _ => True) (.slice P1 y1.length d1) y1) := ⟨by subst hW_; (with_reducible repeat (first | apply Kd.R_alloc | apply Kd.R_drewN | apply Kd.R_drew)); exact Kd.R_mono (Kd.R_far (p := ⟨g3, 2, none⟩) (Kd.R_far (p := ⟨g3, 1, none⟩) (Kd.R_far (p := ⟨g3, 0, none⟩) (Kd.R_types O1.out B3.out (by decide)) (fun _ hk => hk.2) (.bool t11)) (fun _ hk => hk.2) (.string t12)) (fun _ hk => hk.2) (.string t13)) (fun _ hk => trivial)⟩
   replace B1 : Aside0 (w9.heap[g1]? = some (.cells #[.bool t4, .string t5, .string t6] 29 (0, 0))) := bG hW_ B1
   replace B2 : Aside0 (w9.heap[g2]? = some (.cells #[.bool t7, .string t8, .string t9] 29 (0, 0))) := bG hW_ B2
   replace B3 : Aside0 (w9.heap[g3]? = some (.cells #[.bool t11, .string t12, .string t13] 29 (0, 0))) := bG hW_ B3
   replace HB := hG hW_
   clear hW_
   replace O1 := rD O1
   replace B1 := bD B1
   replace B2 := bD B2
   replace B3 := bD B3
   replace HB := hD HB
   refine startA 17 (S := fun w' => w'.cell? ⟨g2, 0, none⟩ = some (.bool t7) ∧ w'.cell? ⟨g2, 1, none⟩ = some (.string t8) ∧ w'.cell? ⟨g2, 2, none⟩ = some (.string t9)) (ds := []) zK (fun hHeld => ?_); refine with_tabW L6awake.tab5 L6awake.bits5 (fun HT_ HW_ => ?_)
   generalize w9.drew = w10 at O1 B1 B2 B3 HB hHeld ⊢
   refine pA 0 1 ?_
   refine pA 1 3 ?_
   refine pA 2 7 ?_
   refine tA 3 15 hHeld ?_
   refine rcB 4 31 Tryd.func28 (L0Whole.calls _ _ _ _ _ _ A5.out) hHeld br fun w11 hb hHeld => ?_
   refine pA 5 63 ?_
   refine pA 6 127 ?_
   refine pA 7 255 ?_
   refine uA 8 511 ?_
   refine uA 9 1023 ?_
   refine pA 10 2047 ?_
   refine pA 11 4095 ?_
   refine uA 12 8191 ?_
   refine uA 13 16383 ?_
   refine uA 14 32767 ?_
   refine pA 15 65535 ?_
   refine pA 16 131071 ?_
   replace O1 := rB O1 hb
   replace B1 := bB B1 hb
   replace B2 := bB B2 hb
   replace B3 := bB B3 hb
   replace HB := sB hb
   clear hb
   refine done_ (done_of HT_.out (by kernel_rfl)) ?_
   try go_wp2
   go_ret
   exact ⟨zE, zH⟩
 ·obtain rfl := sI H
  go_enter Tryd.func11, Tryd.ntmps11
  try go_wp2_with (first | (refine gB 7 Tryd.func27 (L0Ratio.calls _ _ _ _ _ _ _ A1.out) fun w1 hb => ?_; replace HB := sB hb; (try clear hb)) | ((with_reducible refine gate_dst (N := 9) rfl ?_); refine Kd.R_lit k54 _ 54 ?hg (N := 9) ?hd (xs := ([(⟨0, (⟨t1, t2, t3⟩ : S29)⟩ : S54)] : List (S54))) (inner := [.int .i64 0, .bool t1, .string t2, .string t3]) (ok := fun _ => True) (okp := fun _ => True) ?hr ?hp (fun _ hk => hk) trivial (Below.refl _ _) (Nat.le_refl _) (by simp) ?_; (case hd => rfl); (case hg => rfl); (case hr => first | (go_simp; done) | (go_simp; rfl)); (case hp => exact (Reps.c4 (show Kd.M k54 _ _ _ (⟨0, (⟨t1, t2, t3⟩ : S29)⟩ : S54) [.int .i64 0, .bool t1, .string t2, .string t3] from (k54_mkM _ _ _ (⟨0, (⟨t1, t2, t3⟩ : S29)⟩ : S54) )) (Reps.none _ _))); intro v1 w2 ho73 hb hg_ hnew_; clear hg_ hnew_; (first | rw [← Y1.out] at ho73 | (simp only [Int.reduceToNat] at ho73; rw [← Y1.out] at ho73)); have O1 := Aside0.mk (Kd.R_lower ho73 (below_size zH)); replace HB := sB hb; clear hb ho73) | (refine gB 10 Tryd.func28 (L0Whole.calls _ _ _ _ _ _ A2.out) fun w3 hb => ?_; replace O1 := rB O1 hb; replace HB := sB hb; (try clear hb)) | (refine bxA w 2 #[.bool false, .string (⟨#[]⟩ : ByteArray), .string (⟨#[]⟩ : ByteArray)] 29 fun g1 w4 B1 G1 hg hb => ?_; replace O1 := rB O1 hb; replace HB := sB hb; clear hb hg; obtain ⟨_, _, _, _, _, _⟩ := xB3 B1; obtain ⟨P1, d1, u1⟩ := Kd.R_slice O1.out; subst u1) | (refine gB 14 Tryd.func15 (I1Simple.calls _ _ _ _ _ _ _ _ _ _ _ _ _ _ _ ?side1 ?side2 A3.out) fun w5 hb => ?_; (case side1 => refine (Kd.R_reads' (e := 54) (base := w.heap.size) (ok := fun k_ => True) (n := y1.length) (c := d1) ?_).2.2; exact zq11); (case side2 => exact (Kd.R_reads' O1.out).2.1); replace O1 := Aside0.mk (Kd.R_below zq11 hb); replace B1 := Aside0.mk (blk_below (bC B1) hb); replace HB := sB hb; (try clear hb)) | (refine bxA w 3 #[.bool false, .string (⟨#[]⟩ : ByteArray), .string (⟨#[]⟩ : ByteArray)] 29 fun g2 w6 B2 G2 hg hb => ?_; have N1 := Aside0.mk (nL B1 hg); have N2 := Aside0.mk (nG B1 hg); replace O1 := rB O1 hb; replace B1 := bB B1 hb; replace HB := sB hb; clear hb hg; have m1 := N2.out; have n1 := N1.out; obtain ⟨_, _, _, _, _, _⟩ := xB3 B2; obtain ⟨_, _, _, _, _, _⟩ := xB3 B1) | (refine gB 20 Tryd.func21 (I1Compound.calls _ _ _ _ _ _ _ _ _ _ _ _ _ _ _ _ ?side1 ?side2 A4.out) fun w7 hb => ?_; (case side1 => refine (Kd.R_reads' (e := 54) (base := w.heap.size) (ok := fun k_ => True) (n := y1.length) (c := d1) ?_).2.2; exact zq12); (case side2 => exact (Kd.R_reads' O1.out).2.1); replace O1 := Aside0.mk (Kd.R_below zq12 hb); replace B1 := Aside0.mk (blk_below (bC B1) hb); replace B2 := Aside0.mk (blk_below (bC B2) hb); replace HB := sB hb; (try clear hb)) | (refine bxA w 5 #[.bool false, .string (⟨#[]⟩ : ByteArray), .string (⟨#[]⟩ : ByteArray)] 29 fun g3 w8 B3 G3 hg hb => ?_; have N3 := Aside0.mk (nL B1 hg); have N4 := Aside0.mk (nG B1 hg); have N5 := Aside0.mk (nL B2 hg); have N6 := Aside0.mk (nG B2 hg); replace O1 := rB O1 hb; replace B1 := bB B1 hb; replace B2 := bB B2 hb; replace HB := sB hb; clear hb hg; have m2 := N4.out; have n2 := N3.out; have m3 := N6.out; have n3 := N5.out; obtain ⟨_, _, _, _, _, _⟩ := xB3 B3))
  generalize hW_ : (((w8.setCell ⟨g3, 0, none⟩ (.bool t11)).setCell ⟨g3, 1, none⟩ (.string t12)).setCell ⟨g3, 2, none⟩ (.string t13)) = w9
  replace O1 : Aside0 (Kd.R k54 54 w9 w.heap.size (fun _ => True) (.slice P1 y1.length d1) y1) := ⟨by subst hW_; (with_reducible repeat (first | apply Kd.R_alloc | apply Kd.R_drewN | apply Kd.R_drew)); exact Kd.R_mono (Kd.R_far (p := ⟨g3, 2, none⟩) (Kd.R_far (p := ⟨g3, 1, none⟩) (Kd.R_far (p := ⟨g3, 0, none⟩) (Kd.R_types O1.out B3.out (by decide)) (fun _ hk => hk.2) (.bool t11)) (fun _ hk => hk.2) (.string t12)) (fun _ hk => hk.2) (.string t13)) (fun _ hk => trivial)⟩
  replace B1 : Aside0 (w9.heap[g1]? = some (.cells #[.bool t4, .string t5, .string t6] 29 (0, 0))) := bG hW_ B1
  replace B2 : Aside0 (w9.heap[g2]? = some (.cells #[.bool t7, .string t8, .string t9] 29 (0, 0))) := bG hW_ B2
  replace B3 : Aside0 (w9.heap[g3]? = some (.cells #[.bool t11, .string t12, .string t13] 29 (0, 0))) := bG hW_ B3
  replace HB := hG hW_
  clear hW_
  replace O1 := rD O1
  replace B1 := bD B1
  replace B2 := bD B2
  replace B3 := bD B3
  replace HB := hD HB
  refine startA 17 (S := fun w' => True) (ds := []) trivial (fun hHeld => ?_); refine with_tabW L6awake.tab5 L6awake.bits5 (fun HT_ HW_ => ?_)
  generalize w9.drew = w10 at O1 B1 B2 B3 HB hHeld ⊢
  refine pA 0 1 ?_
  refine pA 1 3 ?_
  refine pA 2 7 ?_
  refine uA 3 15 ?_
  refine uA 4 31 ?_
  refine uA 5 63 ?_
  refine pA 6 127 ?_
  refine pA 7 255 ?_
  refine uA 8 511 ?_
  refine uA 9 1023 ?_
  refine pA 10 2047 ?_
  refine pA 11 4095 ?_
  refine uA 12 8191 ?_
  refine uA 13 16383 ?_
  refine uA 14 32767 ?_
  refine pA 15 65535 ?_
  refine pA 16 131071 ?_
  refine done_ (done_of HT_.out (by kernel_rfl)) ?_
  try go_wp2
  go_ret
  exact ⟨zE, zH⟩
def L6InterestSimple.j0 : Nat → List (S54) → Int → Int → Int → Bool → Bool → ByteArray → ByteArray → Option (Bool)
 | 0, _, _, _, _, _, _, _, _ => none
 | k + 1, x1, x2, x3, x4, x22, x974000, x974001, x974002 => if x22 = true then ((L6awake.f k).bind fun t976 => (some t976)) else ((I1Simple.f k x974000 x974001 x974002 x1 x2 x3 x4).bind fun bt977 => ((R1Simple.f k x974000 x974001 x974002 x1 x2 x3 x4).bind fun bt982 => ((L6awake.f k).bind fun t987 => (if t987 = true then (if (bt977.1 == bt982.1 && (bt977.2.1.toList == bt982.2.1.toList && (bt977.2.2.1.toList == bt982.2.2.1.toList))) = true then (some (bt977.2.2.2 == bt982.2.2.2)) else (some false)) else (some false)))))
def L6InterestSimple.f (k : Nat) (a0_0 : Bool) (a0_1 : ByteArray) (a0_2 : ByteArray) (l1 : List (S54)) (a2 : Int) (a3 : Int) (a4 : Int) : Option (Bool) := (L6few.f k l1).bind fun t974 => (if t974 = true then ((L0Few.f a0_0 a0_1 a0_2).bind fun t975 => (L6InterestSimple.j0 k l1 a2 a3 a4 (!t975) a0_0 a0_1 a0_2)) else (L6InterestSimple.j0 k l1 a2 a3 a4 true a0_0 a0_1 a0_2))
set_option maxHeartbeats 8000000 in
set_option maxRecDepth 100000 in
theorem L6InterestSimple.calls (k : Nat) (a0_0 : Bool) (a0_1 : ByteArray) (a0_2 : ByteArray) (A1 : Option Addr) (c1 : Nat) (l1 : List (S54)) (a2 : Int) (a3 : Int) (a4 : Int) (r : Bool) (w : World) (hr1 : Kd.C k54 w A1 l1.length l1) (hc1 : l1.length ≤ c1) (H : L6InterestSimple.f k a0_0 a0_1 a0_2 l1 a2 a3 a4 = some r) :
 Calls Tryd.prog 4 #[.agg #[.bool a0_0, .string a0_1, .string a0_2], .slice A1 l1.length c1, .int .i64 a2, .int .i64 a3, .int .i64 a4] w fun e w' => e = .returned (.bool r) ∧ Below w.heap.size w w' := by
 have hu1 := Tryd.underlying29
 have HR1 := Aside0.mk hr1
 have HC1 := Aside0.mk hc1
 clear hr1 hc1
 have HB := Aside0.mk (Below.refl w.heap.size w)
 unfold L6InterestSimple.f at H
 have HC6 := Aside0.mk H
 clear H
 go_enter Tryd.func4, Tryd.ntmps4
 go_upto_region 1 with (first | (refine bxA w 5 #[.bool a0_0, .string a0_1, .string a0_2] 29 fun g1 w1 B1 G1 hg hb => ?_; replace HB := sB hb; clear hb hg))
 (try simp only [Act.put, List.setIfInBounds_toArray, List.set_cons_zero, List.set_cons_succ])
 go_cut [22] (fun v1 wc => ∃ (kq : Nat) (x1 : Bool), v1 = .bool x1 ∧ Aside0 (L6InterestSimple.j0 kq l1 a2 a3 a4 x1 a0_0 a0_1 a0_2 = some r) ∧ Aside0 (kq ≤ k) ∧ Aside0 (wc.heap[g1]? = some (.cells #[.bool a0_0, .string a0_1, .string a0_2] 29 (0, 0))) ∧ Aside0 (Below w.heap.size w wc))
 case first =>
  have H := HC6.out
  clear HC6
  obtain ⟨t1, A2, H⟩ := bS H
  by_cases c2 : t1 = true
  ·subst c2
   rw [if_pos rfl] at H
   obtain ⟨t2, A3, H⟩ := bS H
   have H' := Aside0.mk H
   clear H
   go_wp2_with (first | (refine gB 16 Tryd.func10 (L6few.calls k _ _ l1 true _ ?side1 ?side2 A2.out) fun w2 hb => ?_; (case side1 => exact sC (Kd.C_below HR1.out HB.out)); (case side2 => exact HC1.out); replace B1 := bB B1 hb; replace HB := sB hb; (try clear hb); obtain ⟨_, _, _, _, _, _⟩ := xB3 B1) | (go_at_call 14; (with_reducible refine (L0Few.calls (H := A3.out) ..).mono ?_); rintro e w3 ⟨rfl, hb⟩; replace B1 := bB B1 hb; replace HB := sB hb; (try clear hb)))
   go_meet
   case rel => exact ⟨_, (!t2), zq1, H', ⟨by first | omega | exact Nat.le_refl _⟩, ⟨bC B1⟩, ⟨zH⟩⟩
  ·replace c2 := Bool.eq_false_iff.mpr c2
   subst c2
   rw [if_neg (show ¬ (false = true) by decide)] at H
   have H' := Aside0.mk H
   clear H
   go_wp2_with (first | (refine gB 16 Tryd.func10 (L6few.calls k _ _ l1 false _ ?side1 ?side2 A2.out) fun w2 hb => ?_; (case side1 => exact sC (Kd.C_below HR1.out HB.out)); (case side2 => exact HC1.out); replace B1 := bB B1 hb; replace HB := sB hb; (try clear hb)))
   go_meet
   case rel => exact ⟨_, (true), zq1, H', ⟨by first | omega | exact Nat.le_refl _⟩, ⟨bC B1⟩, ⟨zH⟩⟩
 case rest =>
  clear HC6
  obtain ⟨kq, x1, rfl, HA, HJ5, B1, HB⟩ := hcut
  cases kq with
  | zero => exact absurd HA.out (by simp [L6InterestSimple.j0])
  | succ kj5 =>
   have H := HA.out
   clear HA
   simp only [L6InterestSimple.j0] at H
   by_cases c3 : x1 = true
   ·subst c3
    rw [if_pos rfl] at H
    obtain ⟨t2, A3, H⟩ := bS H
    obtain rfl := sI H
    go_wp2_with (first | (refine gB 23 Tryd.func11 (L6awake.calls _ _ _ A3.out) fun w2 hb => ?_; replace B1 := bB B1 hb; replace HB := sB hb; (try clear hb)))
    go_ret
    exact ⟨zE, zH⟩
   ·replace c3 := Bool.eq_false_iff.mpr c3
    subst c3
    rw [if_neg (show ¬ (false = true) by decide)] at H
    obtain ⟨⟨t3, t4, t5, t6⟩, A3, H⟩ := bS H
    (try dsimp only at H)
    obtain ⟨⟨t7, t8, t9, t10⟩, A4, H⟩ := bS H
    (try dsimp only at H)
    obtain ⟨t2, A5, H⟩ := bS H
    by_cases c4 : t2 = true
    ·subst c4
     rw [if_pos rfl] at H
     by_cases c5 : (t3 == t7 && (t4.toList == t8.toList && (t5.toList == t9.toList))) = true
     rw [if_pos c5] at H
     have c5b0 : (t3 == t7 && (t4.toList == t8.toList && (t5.toList == t9.toList))) = true := c5
     (try (have c5b1 : decide (t3 = t7 && (t4.toList == t8.toList && (t5.toList == t9.toList))) = true := by simpa using c5))
     (try (have c5b2 : (t3 == t7 && (t4.toList == t8.toList && (t5.toList == t9.toList))) = true := by simpa using c5))
     clear c5
     obtain rfl := sI H
     obtain ⟨_, _, _, _, _, _⟩ := xB3 B1
     rotate_left
     rw [if_neg c5] at H
     have c5b0 : (t3 == t7 && (t4.toList == t8.toList && (t5.toList == t9.toList))) = false := by simpa using c5
     (try (have c5b1 : decide (t3 = t7 && (t4.toList == t8.toList && (t5.toList == t9.toList))) = false := by simpa using c5))
     (try (have c5b2 : (t3 == t7 && (t4.toList == t8.toList && (t5.toList == t9.toList))) = false := by simpa using c5))
     (try (have c5b3 : ¬ (t3 = t7 && (t4.toList == t8.toList && (t5.toList == t9.toList))) := by simpa using c5))
     clear c5
     obtain rfl := sI H
     obtain ⟨_, _, _, _, _, _⟩ := xB3 B1
     rotate_left
     all_goals
      go_wp2_with (first | (refine gB 30 Tryd.func15 (I1Simple.calls _ _ _ _ _ _ _ _ _ _ _ _ _ _ _ ?side1 ?side2 A3.out) fun w2 hb => ?_; (case side1 => exact sC (Kd.C_below HR1.out HB.out)); (case side2 => exact HC1.out); replace B1 := bB B1 hb; replace HB := sB hb; (try clear hb)) | (refine bxA w 11 #[.bool false, .string (⟨#[]⟩ : ByteArray), .string (⟨#[]⟩ : ByteArray)] 29 fun g2 w3 B2 G2 hg hb => ?_; have N1 := Aside0.mk (nL B1 hg); have N2 := Aside0.mk (nG B1 hg); replace B1 := bB B1 hb; replace HB := sB hb; clear hb hg; have m1 := N2.out; have n1 := N1.out; obtain ⟨_, _, _, _, _, _⟩ := xB3 B2; obtain ⟨_, _, _, _, _, _⟩ := xB3 B1) | (refine gB 39 Tryd.func16 (R1Simple.calls _ _ _ _ _ _ _ _ _ _ _ _ _ _ _ ?side1 ?side2 A4.out) fun w4 hb => ?_; (case side1 => exact Kd.C_below HR1.out zH); (case side2 => exact HC1.out); replace B1 := Aside0.mk (blk_below (bC B1) hb); replace B2 := Aside0.mk (blk_below (bC B2) hb); replace HB := sB hb; (try clear hb)) | (refine bxA w 13 #[.bool false, .string (⟨#[]⟩ : ByteArray), .string (⟨#[]⟩ : ByteArray)] 29 fun g3 w5 B3 G3 hg hb => ?_; have N3 := Aside0.mk (nL B1 hg); have N4 := Aside0.mk (nG B1 hg); have N5 := Aside0.mk (nL B2 hg); have N6 := Aside0.mk (nG B2 hg); replace B1 := bB B1 hb; replace B2 := bB B2 hb; replace HB := sB hb; clear hb hg; have m2 := N4.out; have n2 := N3.out; have m3 := N6.out; have n3 := N5.out; obtain ⟨_, _, _, _, _, _⟩ := xB3 B3) | (refine gB 42 Tryd.func11 (L6awake.calls _ _ _ A5.out) fun w6 hb => ?_; replace B1 := Aside0.mk (blk_below (bC B1) hb); replace B2 := Aside0.mk (blk_below (bC B2) hb); replace B3 := Aside0.mk (blk_below (bC B3) hb); replace HB := sB hb; (try clear hb); obtain ⟨_, _, _, _, _, _⟩ := xB3 B2; obtain ⟨_, _, _, _, _, _⟩ := xB3 B3))
      go_ret
      exact ⟨zE, zH⟩
    ·replace c4 := Bool.eq_false_iff.mpr c4
     subst c4
     rw [if_neg (show ¬ (false = true) by decide)] at H
     obtain rfl := sI H
     obtain ⟨_, _, _, _, _, _⟩ := xB3 B1
     go_wp2_with (first | (refine gB 30 Tryd.func15 (I1Simple.calls _ _ _ _ _ _ _ _ _ _ _ _ _ _ _ ?side1 ?side2 A3.out) fun w2 hb => ?_; (case side1 => exact sC (Kd.C_below HR1.out HB.out)); (case side2 => exact HC1.out); replace B1 := bB B1 hb; replace HB := sB hb; (try clear hb)) | (refine bxA w 11 #[.bool false, .string (⟨#[]⟩ : ByteArray), .string (⟨#[]⟩ : ByteArray)] 29 fun g2 w3 B2 G2 hg hb => ?_; have N1 := Aside0.mk (nL B1 hg); have N2 := Aside0.mk (nG B1 hg); replace B1 := bB B1 hb; replace HB := sB hb; clear hb hg; have m1 := N2.out; have n1 := N1.out; obtain ⟨_, _, _, _, _, _⟩ := xB3 B2; obtain ⟨_, _, _, _, _, _⟩ := xB3 B1) | (refine gB 39 Tryd.func16 (R1Simple.calls _ _ _ _ _ _ _ _ _ _ _ _ _ _ _ ?side1 ?side2 A4.out) fun w4 hb => ?_; (case side1 => exact Kd.C_below HR1.out zH); (case side2 => exact HC1.out); replace B1 := Aside0.mk (blk_below (bC B1) hb); replace B2 := Aside0.mk (blk_below (bC B2) hb); replace HB := sB hb; (try clear hb)) | (refine bxA w 13 #[.bool false, .string (⟨#[]⟩ : ByteArray), .string (⟨#[]⟩ : ByteArray)] 29 fun g3 w5 B3 G3 hg hb => ?_; have N3 := Aside0.mk (nL B1 hg); have N4 := Aside0.mk (nG B1 hg); have N5 := Aside0.mk (nL B2 hg); have N6 := Aside0.mk (nG B2 hg); replace B1 := bB B1 hb; replace B2 := bB B2 hb; replace HB := sB hb; clear hb hg; have m2 := N4.out; have n2 := N3.out; have m3 := N6.out; have n3 := N5.out; obtain ⟨_, _, _, _, _, _⟩ := xB3 B3) | (refine gB 42 Tryd.func11 (L6awake.calls _ _ _ A5.out) fun w6 hb => ?_; replace B1 := Aside0.mk (blk_below (bC B1) hb); replace B2 := Aside0.mk (blk_below (bC B2) hb); replace B3 := Aside0.mk (blk_below (bC B3) hb); replace HB := sB hb; (try clear hb)))
     go_ret
     exact ⟨zE, zH⟩
end Go.Proofs.YtggfilmdfpmbmaaDoor.QN
end
