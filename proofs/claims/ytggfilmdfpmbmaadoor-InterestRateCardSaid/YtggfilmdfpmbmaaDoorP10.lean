/-
  Steps and laws behind the statement that the claim's last text proves: the words of the walks, the walks of the Go functions (printed by a program of this session's own, then shortened by one), and what they compute. Conditions: stated at each theorem.
-/
import Derived.Test.YtggfilmdfpmbmaaDoorP5
import Derived.Test.YtggfilmdfpmbmaaDoorP11
import Derived.Test.YtggfilmdfpmbmaaDoorP12
import Derived.Test.YtggfilmdfpmbmaaDoorP0
section
namespace Go.Proofs.YtggfilmdfpmbmaaDoor.QN
open Go.RowKit Go.Proofs.YtggfilmdfpmbmaaDoorW.PrintWords Go.Proofs.YtggfilmdfpmbmaaDoorW.PrintLast Go.Proofs.YtggfilmdfpmbmaaDoorW.PrintMore
attribute [local go_sem] max2_int min2_int max_two min_two max_three min_three max_four min_four   -- for this text's walks alone
set_option linter.unusedVariables false
set_option linter.unusedSimpArgs false
attribute [local go_sem high] eqA29
def L6awake.f (k : Nat)  : Option (Bool) := (L0Ratio.f k 1 10).bind fun bt942 => ((some (([(⟨0, (⟨bt942.1, bt942.2.1, bt942.2.2⟩ : S29)⟩ : S54)] : List (S54)) : List (S54))).bind fun y945 => ((L0Whole.f k 36500).bind fun bt948 => ((I1Simple.f k bt948.1 bt948.2.1 bt948.2.2 y945 10 40 365).bind fun bt952 => ((I1Compound.f k bt948.1 bt948.2.1 bt948.2.2 y945 10 40 365 15).bind fun bt957 => (if bt952.2.2.2 = 0 then ((L0Whole.f k 300).bind fun bt962 => (if (bt952.1 == bt962.1 && (bt952.2.1.toList == bt962.2.1.toList && (bt952.2.2.1.toList == bt962.2.2.toList))) = true then (if bt957.2.2.2 = 0 then ((L0Ratio.f k 21945 73).bind fun bt965 => (some (bt957.1 == bt965.1 && (bt957.2.1.toList == bt965.2.1.toList && (bt957.2.2.1.toList == bt965.2.2.toList))))) else (some false)) else (some false))) else (some false))))))
def L6awake.T5 : Bool × List (List Nat × List Nat) := (true, [([], []), ([0], [0]), ([1], [1]), ([2], [2]), ([2, 2], [2]), ([3, 4, 2], [2, 3, 4]), ([2, 5], [2, 5]), ([6, 4], [6]), ([7], [7]), ([8, 7], [7, 8]), ([7, 9], [7, 9]), ([10, 7], [10]), ([11], [11]), ([11, 11], [11]), ([12, 13, 11], [11, 12, 13]), ([11, 14], [11, 14]), ([15, 13, 0, 1, 2, 3, 4, 5, 6, 7, 8, 9, 10, 11, 12, 13, 14, 15], [15])])
def L6awake.B5 : List Nat := [0, 1, 3, 7, 7, 31, 63, 127, 255, 511, 1023, 2047, 4095, 4095, 16383, 32767, 65535]
theorem L6awake.tab5 : rtab .any (opsOf Tryd.f11 5) = L6awake.T5 := by kernel_rfl
theorem L6awake.bits5 : waitsOk L6awake.T5.2 L6awake.B5 = true := by kernel_rfl
set_option maxHeartbeats 8000000 in
set_option maxRecDepth 100000 in
theorem L6awake.calls (k : Nat)  (r : Bool) (w : World) (h : L6awake.f k  = some r) :
 Calls Tryd.prog 11 #[] w fun e w' => e = .returned (.bool r) ∧ Below w.heap.size w w' := by
 have hu54 := Tryd.underlying54
 have hu29 := Tryd.underlying29
 have HB := Aside0.mk (Below.refl w.heap.size w)
 have H : ((L0Ratio.f k 1 10).bind fun bt942 => ((some (([(⟨0, (⟨bt942.1, bt942.2.1, bt942.2.2⟩ : S29)⟩ : S54)] : List (S54)) : List (S54))).bind fun y945 => ((L0Whole.f k 36500).bind fun bt948 => ((I1Simple.f k bt948.1 bt948.2.1 bt948.2.2 y945 10 40 365).bind fun bt952 => ((I1Compound.f k bt948.1 bt948.2.1 bt948.2.2 y945 10 40 365 15).bind fun bt957 => (if bt952.2.2.2 = 0 then ((L0Whole.f k 300).bind fun bt962 => (if (bt952.1 == bt962.1 && (bt952.2.1.toList == bt962.2.1.toList && (bt952.2.2.1.toList == bt962.2.2.toList))) = true then (if bt957.2.2.2 = 0 then ((L0Ratio.f k 21945 73).bind fun bt965 => (some (bt957.1 == bt965.1 && (bt957.2.1.toList == bt965.2.1.toList && (bt957.2.2.1.toList == bt965.2.2.toList))))) else (some false)) else (some false))) else (some false))))))) = some r := h
 clear h
 replace H := bS H
 obtain ⟨⟨t942, t943, t944⟩, A1, H⟩ := H
 (try dsimp only at H)
 obtain ⟨y945, hy945⟩ : ∃ y_ : List (S54), y_ = (([(⟨0, (⟨t942, t943, t944⟩ : S29)⟩ : S54)] : List (S54))) := ⟨_, rfl⟩
 (try rw [Option.bind_some] at H); (try rw [← hy945] at H)
 have Ny945 := Aside0.mk hy945
 clear hy945
 replace H := bS H
 obtain ⟨⟨t948, t949, t950⟩, A2, H⟩ := H
 (try dsimp only at H)
 replace H := bS H
 obtain ⟨⟨t952, t953, t954, t955⟩, A3, H⟩ := H
 (try dsimp only at H)
 replace H := bS H
 obtain ⟨⟨t957, t958, t959, t960⟩, A4, H⟩ := H
 (try dsimp only at H)
 by_cases c5 : t955 = 0
 ·rw [if_pos c5] at H
  have c5b0 := beq_iff_eq.mpr c5
  have c5b1 : (t955 != 0) = false := bne_eq_false_iff_eq.mpr c5
  clear c5
  replace H := bS H
  obtain ⟨⟨t962, t963, t964⟩, A6, H⟩ := H
  (try dsimp only at H)
  by_cases c7 : (t952 == t962 && (t953.toList == t963.toList && (t954.toList == t964.toList))) = true
  ·rw [if_pos c7] at H
   have c7b0 : (t952 == t962 && (t953.toList == t963.toList && (t954.toList == t964.toList))) = true := c7
   (try (have c7b1 : decide (t952 = t962 && (t953.toList == t963.toList && (t954.toList == t964.toList))) = true := by simpa using c7))
   (try (have c7b2 : (t952 == t962 && (t953.toList == t963.toList && (t954.toList == t964.toList))) = true := by simpa using c7))
   clear c7
   by_cases c8 : t960 = 0
   ·rw [if_pos c8] at H
    have c8b0 := beq_iff_eq.mpr c8
    have c8b1 : (t960 != 0) = false := bne_eq_false_iff_eq.mpr c8
    clear c8
    replace H := bS H
    obtain ⟨⟨t965, t966, t967⟩, A9, H⟩ := H
    (try dsimp only at H)
    obtain rfl := Option.some.inj H
    go_enter Tryd.func11, Tryd.ntmps11
    try go_wp2_with (first | (refine goesLA 7 Tryd.func27 #[.int .i64 1, .int .i64 10] ?_; (with_reducible refine (L0Ratio.calls k 1 10 t942 t943 t944 _ A1.out).mono ?_); rintro e w10 ⟨rfl, hb⟩; refine ⟨_, rfl, ?_⟩; have n0_ := sB hb; revert n0_; clear HB; intro HB; (try clear hb); (try clear hb2); (try clear hk); (try clear hi)) | ((with_reducible refine gate_dst (N := 9) rfl ?_); refine Kd.R_lit k54 _ 54 ?hg (N := 9) ?hd (xs := ([(⟨0, (⟨t942, t943, t944⟩ : S29)⟩ : S54)] : List (S54))) (inner := [.int .i64 0, .bool t942, .string t943, .string t944]) (ok := fun _ => True) (okp := fun _ => True) ?hr ?hp (fun _ hk => hk) trivial (Below.refl _ _) (Nat.le_refl _) (by simp) ?_; (case hd => rfl); (case hg => rfl); (case hr => first | (go_simp; done) | (go_simp; rfl)); (case hp => exact (Reps.c4 (show Kd.M k54 _ _ _ (⟨0, (⟨t942, t943, t944⟩ : S29)⟩ : S54) [.int .i64 0, .bool t942, .string t943, .string t944] from (k54_mkM _ _ _ (⟨0, (⟨t942, t943, t944⟩ : S29)⟩ : S54) )) (Reps.none _ _))); intro v946 w11 ho12 hb hg_ hnew_; clear hg_ hnew_; (first | rw [← Ny945.out] at ho12 | (simp only [Int.reduceToNat] at ho12; rw [← Ny945.out] at ho12)); have n0_ := Aside0.mk (Kd.R_lower ho12 (below_size zH)); have n1_ := sB hb; revert n0_ n1_; clear HB; intro HO947 HB; clear hb ho12) | (refine goesLA 10 Tryd.func28 #[.int .i64 36500] ?_; (with_reducible refine (L0Whole.calls k 36500 t948 t949 t950 _ A2.out).mono ?_); rintro e w13 ⟨rfl, hb⟩; refine ⟨_, rfl, ?_⟩; have n0_ := Aside0.mk (Kd.R_below zq3 hb); have n1_ := sB hb; revert n0_ n1_; clear HO947 HB; intro HO947 HB; (try clear hb); (try clear hb2); (try clear hk); (try clear hi)) | (refine box_evA 2 #[.bool false, .string (⟨#[]⟩ : ByteArray), .string (⟨#[]⟩ : ByteArray)] 29 ?_; intro gb951 hg w14 hbox hb; have n0_ := Aside0.mk (Kd.R_below zq3 hb); have n1_ := sB hb; have n2_ := Aside0.mk (hbox); have n3_ := wE w hg; have n4_ := wE w hg; revert n0_ n1_ n2_ n3_ n4_; clear HO947 HB; intro HO947 HB BK951 GW951 GE951; clear hb hbox hg; have hcz15_0 := cB BK951 0 (.bool false); have hcz15_1 := cB BK951 1 (.string (⟨#[]⟩ : ByteArray)); have hcz15_2 := cB BK951 2 (.string (⟨#[]⟩ : ByteArray)); have hfz15_0 := fB BK951 0; have hfz15_1 := fB BK951 1; have hfz15_2 := fB BK951 2; obtain ⟨Ao16, co16, eo16⟩ := Kd.R_slice HO947.out; subst eo16) | (refine goesLA 14 Tryd.func15 #[.agg #[.bool t948, .string t949, .string t950], .slice Ao16 y945.length co16, .int .i64 10, .int .i64 40, .int .i64 365] ?_; (with_reducible refine (I1Simple.calls k t948 t949 t950 _ _ y945 10 40 365 t952 t953 t954 t955 _ ?side1 ?side2 A3.out).mono ?_); (case side1 => refine (Kd.R_reads' (e := 54) (base := w.heap.size) (ok := fun k_ => True) (n := y945.length) (c := co16) ?_).2.2; exact zq10); (case side2 => exact (Kd.R_reads' HO947.out).2.1); rintro e w17 ⟨rfl, hb⟩; refine ⟨_, rfl, ?_⟩; have n0_ := Aside0.mk (Kd.R_below zq10 hb); have n1_ := Aside0.mk (blk_below (bC BK951) hb); have n2_ := sB hb; revert n0_ n1_ n2_; clear HO947 BK951 HB; intro HO947 BK951 HB; (try clear hb); (try clear hb2); (try clear hk); (try clear hi)) | (refine box_evA 3 #[.bool false, .string (⟨#[]⟩ : ByteArray), .string (⟨#[]⟩ : ByteArray)] 29 ?_; intro gb956 hg w18 hbox hb; have n0_ := Aside0.mk (Kd.R_below zq3 hb); have n1_ := bB BK951 hb; have n2_ := sB hb; have n3_ := Aside0.mk (hbox); have n4_ := wE w hg; have n5_ := wE w hg; have n6_ := Aside0.mk (nL BK951 hg); have n7_ := Aside0.mk (nG BK951 hg); revert n0_ n1_ n2_ n3_ n4_ n5_ n6_ n7_; clear HO947 BK951 HB; intro HO947 BK951 HB BK956 GW956 GE956 NB951_956 NB956_951; clear hb hbox hg; have hnb19 := NB956_951.out; have hnc19 := NB951_956.out; have hcz20_0 := cB BK956 0 (.bool false); have hcz20_1 := cB BK956 1 (.string (⟨#[]⟩ : ByteArray)); have hcz20_2 := cB BK956 2 (.string (⟨#[]⟩ : ByteArray)); have hfz20_0 := fB BK956 0; have hfz20_1 := fB BK956 1; have hfz20_2 := fB BK956 2; have hcz21_0 := cB BK951 0 (.bool t948); have hcz21_1 := cB BK951 1 (.string t949); have hcz21_2 := cB BK951 2 (.string t950); have hfz21_0 := fB BK951 0; have hfz21_1 := fB BK951 1; have hfz21_2 := fB BK951 2) | (refine goesLA 20 Tryd.func21 #[.agg #[.bool t948, .string t949, .string t950], .slice Ao16 y945.length co16, .int .i64 10, .int .i64 40, .int .i64 365, .int .i64 15] ?_; (with_reducible refine (I1Compound.calls k t948 t949 t950 _ _ y945 10 40 365 15 t957 t958 t959 t960 _ ?side1 ?side2 A4.out).mono ?_); (case side1 => refine (Kd.R_reads' (e := 54) (base := w.heap.size) (ok := fun k_ => True) (n := y945.length) (c := co16) ?_).2.2; exact zq11); (case side2 => exact (Kd.R_reads' HO947.out).2.1); rintro e w22 ⟨rfl, hb⟩; refine ⟨_, rfl, ?_⟩; have n0_ := Aside0.mk (Kd.R_below zq11 hb); have n1_ := Aside0.mk (blk_below (bC BK951) hb); have n2_ := Aside0.mk (blk_below (bC BK956) hb); have n3_ := sB hb; revert n0_ n1_ n2_ n3_; clear HO947 BK951 BK956 HB; intro HO947 BK951 BK956 HB; (try clear hb); (try clear hb2); (try clear hk); (try clear hi)) | (refine box_evA 5 #[.bool false, .string (⟨#[]⟩ : ByteArray), .string (⟨#[]⟩ : ByteArray)] 29 ?_; intro gb961 hg w23 hbox hb; have n0_ := Aside0.mk (Kd.R_below zq3 hb); have n1_ := bB BK951 hb; have n2_ := bB BK956 hb; have n3_ := sB hb; have n4_ := Aside0.mk (hbox); have n5_ := wE w hg; have n6_ := wE w hg; have n7_ := Aside0.mk (nL BK951 hg); have n8_ := Aside0.mk (nG BK951 hg); have n9_ := Aside0.mk (nL BK956 hg); have n10_ := Aside0.mk (nG BK956 hg); revert n0_ n1_ n2_ n3_ n4_ n5_ n6_ n7_ n8_ n9_ n10_; clear HO947 BK951 BK956 HB; intro HO947 BK951 BK956 HB BK961 GW961 GE961 NB951_961 NB961_951 NB956_961 NB961_956; clear hb hbox hg; have hnb24 := NB961_951.out; have hnc24 := NB951_961.out; have hnb25 := NB961_956.out; have hnc25 := NB956_961.out; have hcz26_0 := cB BK961 0 (.bool false); have hcz26_1 := cB BK961 1 (.string (⟨#[]⟩ : ByteArray)); have hcz26_2 := cB BK961 2 (.string (⟨#[]⟩ : ByteArray)); have hfz26_0 := fB BK961 0; have hfz26_1 := fB BK961 1; have hfz26_2 := fB BK961 2))
    generalize hW_ : (((w23.setCell ⟨gb961, 0, none⟩ (.bool t957)).setCell ⟨gb961, 1, none⟩ (.string t958)).setCell ⟨gb961, 2, none⟩ (.string t959)) = w27
    have n0_ : Aside0 (Kd.R k54 54 w27 w.heap.size (fun _ => True) (.slice Ao16 y945.length co16) y945) := ⟨by subst hW_; (with_reducible repeat (first | apply Kd.R_alloc | apply Kd.R_drewN | apply Kd.R_drew)); exact Kd.R_mono (Kd.R_far (p := ⟨gb961, 2, none⟩) (Kd.R_far (p := ⟨gb961, 1, none⟩) (Kd.R_far (p := ⟨gb961, 0, none⟩) (Kd.R_types HO947.out BK961.out (by decide)) (fun _ hk => hk.2) (.bool t957)) (fun _ hk => hk.2) (.string t958)) (fun _ hk => hk.2) (.string t959)) (fun _ hk => trivial)⟩
    have n1_ : Aside0 (w27.heap[gb951]? = some (.cells #[.bool t948, .string t949, .string t950] 29 (0, 0))) := ⟨by subst hW_; exact bC BK951⟩
    have n2_ : Aside0 (w27.heap[gb956]? = some (.cells #[.bool t952, .string t953, .string t954] 29 (0, 0))) := ⟨by subst hW_; exact bC BK956⟩
    have n3_ : Aside0 (w27.heap[gb961]? = some (.cells #[.bool t957, .string t958, .string t959] 29 (0, 0))) := ⟨by subst hW_; exact bC BK961⟩
    have n4_ : Aside0 (Below w.heap.size w w27) := ⟨by subst hW_; exact zH⟩
    clear hW_
    (try clear HO947); (try clear BK951); (try clear BK956); (try clear BK961); (try clear HB)
    have HO947 := n0_
    have BK951 := n1_
    have BK956 := n2_
    have BK961 := n3_
    have HB := n4_
    clear n0_ n1_ n2_ n3_ n4_
    have n0_ := Aside0.mk (Kd.R_drew HO947.out)
    have n1_ := Aside0.mk (blk_drew BK951.out)
    have n2_ := Aside0.mk (blk_drew BK956.out)
    have n3_ := Aside0.mk (blk_drew BK961.out)
    have n4_ := Aside0.mk (below_drew1 HB.out)
    revert n0_ n1_ n2_ n3_ n4_
    clear HO947 BK951 BK956 BK961 HB
    intro HO947 BK951 BK956 BK961 HB
    refine start_ (n := 17) (S := fun w' => w'.cell? ⟨gb956, 0, none⟩ = some (.bool t952) ∧ w'.cell? ⟨gb956, 1, none⟩ = some (.string t953) ∧ w'.cell? ⟨gb956, 2, none⟩ = some (.string t954) ∧ w'.cell? ⟨gb961, 0, none⟩ = some (.bool t957) ∧ w'.cell? ⟨gb961, 1, none⟩ = some (.string t958) ∧ w'.cell? ⟨gb961, 2, none⟩ = some (.string t959)) (ds := []) #[false, false, false, false, false, false, false, false, false, false, false, false, false, false, false, false, false] (by kernel_rfl) rfl rfl ⟨cA BK956 0, cA BK956 1, cA BK956 2, cA BK961 0, cA BK961 1, cA BK961 2⟩ (fun hHeld => ?_); refine with_tabW L6awake.tab5 L6awake.bits5 (fun HT_ HW_ => ?_)
    generalize w27.drew = w28 at HO947 BK951 BK956 BK961 HB hHeld ⊢
    refine pureA 0 23 (lB 17 1) rfl rfl ?_
    refine pureA 1 24 (lB 17 3) rfl rfl ?_
    refine pureA 2 25 (lB 17 7) rfl rfl ?_
    refine takeA 3 26 (lB 17 15) rfl rfl hHeld ?_
    refine oneA 4 27 (lB 17 31) rfl rfl (fun K hK => ?_)
    refine goes_ Tryd.func28 (by kernel_rfl) rfl #[.int .i64 300] (by rfl) rfl rfl zq2 ?_
    with_reducible refine (L0Whole.calls k 300 t962 t963 t964 _ A6.out).mono ?_
    rintro e w29 ⟨rfl, hb⟩
    refine ⟨_, rfl, ?_⟩
    have n0_ := Aside0.mk (Kd.R_below zq3 hb)
    have n1_ := bB BK951 hb
    have n2_ := bB BK956 hb
    have n3_ := bB BK961 hb
    have n4_ := sB hb
    revert n0_ n1_ n2_ n3_ n4_
    clear HO947 BK951 BK956 BK961 HB
    intro HO947 BK951 BK956 BK961 HB
    (try clear hb); (try clear hb2); (try clear hk); (try clear hi)
    refine hK.out _ _ ⟨cA BK956 0, cA BK956 1, cA BK956 2, cA BK961 0, cA BK961 1, cA BK961 2⟩ (fun hHeld => ?_)
    clear hK K
    refine normA (N := 27) ?_
    refine pureA 5 28 (lB 17 63) rfl rfl ?_
    refine pureA 6 29 (lB 17 127) rfl rfl ?_
    refine pureA 7 30 (lB 17 255) rfl rfl ?_
    refine pureA 8 31 (lB 17 511) rfl rfl ?_
    refine pureA 9 32 (lB 17 1023) rfl rfl ?_
    refine pureA 10 33 (lB 17 2047) rfl rfl ?_
    refine pureA 11 34 (lB 17 4095) rfl rfl ?_
    refine takeA 12 35 (lB 17 8191) rfl rfl hHeld ?_
    refine oneA 13 36 (lB 17 16383) rfl rfl (fun K hK => ?_)
    refine goes_ Tryd.func27 (by kernel_rfl) rfl #[.int .i64 21945, .int .i64 73] (by rfl) rfl rfl zq2 ?_
    with_reducible refine (L0Ratio.calls k 21945 73 t965 t966 t967 _ A9.out).mono ?_
    rintro e w30 ⟨rfl, hb⟩
    refine ⟨_, rfl, ?_⟩
    have n0_ := Aside0.mk (Kd.R_below zq3 hb)
    have n1_ := bB BK951 hb
    have n2_ := bB BK956 hb
    have n3_ := bB BK961 hb
    have n4_ := sB hb
    revert n0_ n1_ n2_ n3_ n4_
    clear HO947 BK951 BK956 BK961 HB
    intro HO947 BK951 BK956 BK961 HB
    (try clear hb); (try clear hb2); (try clear hk); (try clear hi)
    refine hK.out _ _ ⟨cA BK956 0, cA BK956 1, cA BK956 2, cA BK961 0, cA BK961 1, cA BK961 2⟩ (fun hHeld => ?_)
    clear hK K
    refine normA (N := 36) ?_
    refine pureA 14 37 (lB 17 32767) rfl rfl ?_
    refine pureA 15 38 (lB 17 65535) rfl rfl ?_
    refine pureA 16 0 (lB 17 131071) rfl rfl ?_
    refine done_ (done_of HT_.out (by kernel_rfl)) ?_
    try go_wp2
    go_ret
    exact ⟨zE, zH⟩
   ·rw [if_neg c8] at H
    have c8b0 := beq_eq_false_iff_ne.mpr c8
    have c8b1 := bne_iff_ne.mpr c8
    obtain rfl := Option.some.inj H
    go_enter Tryd.func11, Tryd.ntmps11
    try go_wp2_with (first | (refine goesLA 7 Tryd.func27 #[.int .i64 1, .int .i64 10] ?_; (with_reducible refine (L0Ratio.calls k 1 10 t942 t943 t944 _ A1.out).mono ?_); rintro e w31 ⟨rfl, hb⟩; refine ⟨_, rfl, ?_⟩; have n0_ := sB hb; revert n0_; clear HB; intro HB; (try clear hb); (try clear hb2); (try clear hk); (try clear hi)) | ((with_reducible refine gate_dst (N := 9) rfl ?_); refine Kd.R_lit k54 _ 54 ?hg (N := 9) ?hd (xs := ([(⟨0, (⟨t942, t943, t944⟩ : S29)⟩ : S54)] : List (S54))) (inner := [.int .i64 0, .bool t942, .string t943, .string t944]) (ok := fun _ => True) (okp := fun _ => True) ?hr ?hp (fun _ hk => hk) trivial (Below.refl _ _) (Nat.le_refl _) (by simp) ?_; (case hd => rfl); (case hg => rfl); (case hr => first | (go_simp; done) | (go_simp; rfl)); (case hp => exact (Reps.c4 (show Kd.M k54 _ _ _ (⟨0, (⟨t942, t943, t944⟩ : S29)⟩ : S54) [.int .i64 0, .bool t942, .string t943, .string t944] from (k54_mkM _ _ _ (⟨0, (⟨t942, t943, t944⟩ : S29)⟩ : S54) )) (Reps.none _ _))); intro v946 w32 ho33 hb hg_ hnew_; clear hg_ hnew_; (first | rw [← Ny945.out] at ho33 | (simp only [Int.reduceToNat] at ho33; rw [← Ny945.out] at ho33)); have n0_ := Aside0.mk (Kd.R_lower ho33 (below_size zH)); have n1_ := sB hb; revert n0_ n1_; clear HB; intro HO947 HB; clear hb ho33) | (refine goesLA 10 Tryd.func28 #[.int .i64 36500] ?_; (with_reducible refine (L0Whole.calls k 36500 t948 t949 t950 _ A2.out).mono ?_); rintro e w34 ⟨rfl, hb⟩; refine ⟨_, rfl, ?_⟩; have n0_ := Aside0.mk (Kd.R_below zq3 hb); have n1_ := sB hb; revert n0_ n1_; clear HO947 HB; intro HO947 HB; (try clear hb); (try clear hb2); (try clear hk); (try clear hi)) | (refine box_evA 2 #[.bool false, .string (⟨#[]⟩ : ByteArray), .string (⟨#[]⟩ : ByteArray)] 29 ?_; intro gb951 hg w35 hbox hb; have n0_ := Aside0.mk (Kd.R_below zq3 hb); have n1_ := sB hb; have n2_ := Aside0.mk (hbox); have n3_ := wE w hg; have n4_ := wE w hg; revert n0_ n1_ n2_ n3_ n4_; clear HO947 HB; intro HO947 HB BK951 GW951 GE951; clear hb hbox hg; have hcz36_0 := cB BK951 0 (.bool false); have hcz36_1 := cB BK951 1 (.string (⟨#[]⟩ : ByteArray)); have hcz36_2 := cB BK951 2 (.string (⟨#[]⟩ : ByteArray)); have hfz36_0 := fB BK951 0; have hfz36_1 := fB BK951 1; have hfz36_2 := fB BK951 2; obtain ⟨Ao37, co37, eo37⟩ := Kd.R_slice HO947.out; subst eo37) | (refine goesLA 14 Tryd.func15 #[.agg #[.bool t948, .string t949, .string t950], .slice Ao37 y945.length co37, .int .i64 10, .int .i64 40, .int .i64 365] ?_; (with_reducible refine (I1Simple.calls k t948 t949 t950 _ _ y945 10 40 365 t952 t953 t954 t955 _ ?side1 ?side2 A3.out).mono ?_); (case side1 => refine (Kd.R_reads' (e := 54) (base := w.heap.size) (ok := fun k_ => True) (n := y945.length) (c := co37) ?_).2.2; exact zq10); (case side2 => exact (Kd.R_reads' HO947.out).2.1); rintro e w38 ⟨rfl, hb⟩; refine ⟨_, rfl, ?_⟩; have n0_ := Aside0.mk (Kd.R_below zq10 hb); have n1_ := Aside0.mk (blk_below (bC BK951) hb); have n2_ := sB hb; revert n0_ n1_ n2_; clear HO947 BK951 HB; intro HO947 BK951 HB; (try clear hb); (try clear hb2); (try clear hk); (try clear hi)) | (refine box_evA 3 #[.bool false, .string (⟨#[]⟩ : ByteArray), .string (⟨#[]⟩ : ByteArray)] 29 ?_; intro gb956 hg w39 hbox hb; have n0_ := Aside0.mk (Kd.R_below zq3 hb); have n1_ := bB BK951 hb; have n2_ := sB hb; have n3_ := Aside0.mk (hbox); have n4_ := wE w hg; have n5_ := wE w hg; have n6_ := Aside0.mk (nL BK951 hg); have n7_ := Aside0.mk (nG BK951 hg); revert n0_ n1_ n2_ n3_ n4_ n5_ n6_ n7_; clear HO947 BK951 HB; intro HO947 BK951 HB BK956 GW956 GE956 NB951_956 NB956_951; clear hb hbox hg; have hnb40 := NB956_951.out; have hnc40 := NB951_956.out; have hcz41_0 := cB BK956 0 (.bool false); have hcz41_1 := cB BK956 1 (.string (⟨#[]⟩ : ByteArray)); have hcz41_2 := cB BK956 2 (.string (⟨#[]⟩ : ByteArray)); have hfz41_0 := fB BK956 0; have hfz41_1 := fB BK956 1; have hfz41_2 := fB BK956 2; have hcz42_0 := cB BK951 0 (.bool t948); have hcz42_1 := cB BK951 1 (.string t949); have hcz42_2 := cB BK951 2 (.string t950); have hfz42_0 := fB BK951 0; have hfz42_1 := fB BK951 1; have hfz42_2 := fB BK951 2) | (refine goesLA 20 Tryd.func21 #[.agg #[.bool t948, .string t949, .string t950], .slice Ao37 y945.length co37, .int .i64 10, .int .i64 40, .int .i64 365, .int .i64 15] ?_; (with_reducible refine (I1Compound.calls k t948 t949 t950 _ _ y945 10 40 365 15 t957 t958 t959 t960 _ ?side1 ?side2 A4.out).mono ?_); (case side1 => refine (Kd.R_reads' (e := 54) (base := w.heap.size) (ok := fun k_ => True) (n := y945.length) (c := co37) ?_).2.2; exact zq11); (case side2 => exact (Kd.R_reads' HO947.out).2.1); rintro e w43 ⟨rfl, hb⟩; refine ⟨_, rfl, ?_⟩; have n0_ := Aside0.mk (Kd.R_below zq11 hb); have n1_ := Aside0.mk (blk_below (bC BK951) hb); have n2_ := Aside0.mk (blk_below (bC BK956) hb); have n3_ := sB hb; revert n0_ n1_ n2_ n3_; clear HO947 BK951 BK956 HB; intro HO947 BK951 BK956 HB; (try clear hb); (try clear hb2); (try clear hk); (try clear hi)) | (refine box_evA 5 #[.bool false, .string (⟨#[]⟩ : ByteArray), .string (⟨#[]⟩ : ByteArray)] 29 ?_; intro gb961 hg w44 hbox hb; have n0_ := Aside0.mk (Kd.R_below zq3 hb); have n1_ := bB BK951 hb; have n2_ := bB BK956 hb; have n3_ := sB hb; have n4_ := Aside0.mk (hbox); have n5_ := wE w hg; have n6_ := wE w hg; have n7_ := Aside0.mk (nL BK951 hg); have n8_ := Aside0.mk (nG BK951 hg); have n9_ := Aside0.mk (nL BK956 hg); have n10_ := Aside0.mk (nG BK956 hg); revert n0_ n1_ n2_ n3_ n4_ n5_ n6_ n7_ n8_ n9_ n10_; clear HO947 BK951 BK956 HB; intro HO947 BK951 BK956 HB BK961 GW961 GE961 NB951_961 NB961_951 NB956_961 NB961_956; clear hb hbox hg; have hnb45 := NB961_951.out; have hnc45 := NB951_961.out; have hnb46 := NB961_956.out; have hnc46 := NB956_961.out; have hcz47_0 := cB BK961 0 (.bool false); have hcz47_1 := cB BK961 1 (.string (⟨#[]⟩ : ByteArray)); have hcz47_2 := cB BK961 2 (.string (⟨#[]⟩ : ByteArray)); have hfz47_0 := fB BK961 0; have hfz47_1 := fB BK961 1; have hfz47_2 := fB BK961 2))
    generalize hW_ : (((w44.setCell ⟨gb961, 0, none⟩ (.bool t957)).setCell ⟨gb961, 1, none⟩ (.string t958)).setCell ⟨gb961, 2, none⟩ (.string t959)) = w48
    have n0_ : Aside0 (Kd.R k54 54 w48 w.heap.size (fun _ => True) (.slice Ao37 y945.length co37) y945) := ⟨by subst hW_; (with_reducible repeat (first | apply Kd.R_alloc | apply Kd.R_drewN | apply Kd.R_drew)); exact Kd.R_mono (Kd.R_far (p := ⟨gb961, 2, none⟩) (Kd.R_far (p := ⟨gb961, 1, none⟩) (Kd.R_far (p := ⟨gb961, 0, none⟩) (Kd.R_types HO947.out BK961.out (by decide)) (fun _ hk => hk.2) (.bool t957)) (fun _ hk => hk.2) (.string t958)) (fun _ hk => hk.2) (.string t959)) (fun _ hk => trivial)⟩
    have n1_ : Aside0 (w48.heap[gb951]? = some (.cells #[.bool t948, .string t949, .string t950] 29 (0, 0))) := ⟨by subst hW_; exact bC BK951⟩
    have n2_ : Aside0 (w48.heap[gb956]? = some (.cells #[.bool t952, .string t953, .string t954] 29 (0, 0))) := ⟨by subst hW_; exact bC BK956⟩
    have n3_ : Aside0 (w48.heap[gb961]? = some (.cells #[.bool t957, .string t958, .string t959] 29 (0, 0))) := ⟨by subst hW_; exact bC BK961⟩
    have n4_ : Aside0 (Below w.heap.size w w48) := ⟨by subst hW_; exact zH⟩
    clear hW_
    (try clear HO947); (try clear BK951); (try clear BK956); (try clear BK961); (try clear HB)
    have HO947 := n0_
    have BK951 := n1_
    have BK956 := n2_
    have BK961 := n3_
    have HB := n4_
    clear n0_ n1_ n2_ n3_ n4_
    have n0_ := Aside0.mk (Kd.R_drew HO947.out)
    have n1_ := Aside0.mk (blk_drew BK951.out)
    have n2_ := Aside0.mk (blk_drew BK956.out)
    have n3_ := Aside0.mk (blk_drew BK961.out)
    have n4_ := Aside0.mk (below_drew1 HB.out)
    revert n0_ n1_ n2_ n3_ n4_
    clear HO947 BK951 BK956 BK961 HB
    intro HO947 BK951 BK956 BK961 HB
    refine start_ (n := 17) (S := fun w' => w'.cell? ⟨gb956, 0, none⟩ = some (.bool t952) ∧ w'.cell? ⟨gb956, 1, none⟩ = some (.string t953) ∧ w'.cell? ⟨gb956, 2, none⟩ = some (.string t954)) (ds := []) #[false, false, false, false, false, false, false, false, false, false, false, false, false, false, false, false, false] (by kernel_rfl) rfl rfl ⟨cA BK956 0, cA BK956 1, cA BK956 2⟩ (fun hHeld => ?_); refine with_tabW L6awake.tab5 L6awake.bits5 (fun HT_ HW_ => ?_)
    generalize w48.drew = w49 at HO947 BK951 BK956 BK961 HB hHeld ⊢
    refine pureA 0 23 (lB 17 1) rfl rfl ?_
    refine pureA 1 24 (lB 17 3) rfl rfl ?_
    refine pureA 2 25 (lB 17 7) rfl rfl ?_
    refine takeA 3 26 (lB 17 15) rfl rfl hHeld ?_
    refine oneA 4 27 (lB 17 31) rfl rfl (fun K hK => ?_)
    refine goes_ Tryd.func28 (by kernel_rfl) rfl #[.int .i64 300] (by rfl) rfl rfl zq2 ?_
    with_reducible refine (L0Whole.calls k 300 t962 t963 t964 _ A6.out).mono ?_
    rintro e w50 ⟨rfl, hb⟩
    refine ⟨_, rfl, ?_⟩
    have n0_ := Aside0.mk (Kd.R_below zq3 hb)
    have n1_ := bB BK951 hb
    have n2_ := bB BK956 hb
    have n3_ := bB BK961 hb
    have n4_ := sB hb
    revert n0_ n1_ n2_ n3_ n4_
    clear HO947 BK951 BK956 BK961 HB
    intro HO947 BK951 BK956 BK961 HB
    (try clear hb); (try clear hb2); (try clear hk); (try clear hi)
    refine hK.out _ _ ⟨cA BK956 0, cA BK956 1, cA BK956 2⟩ (fun hHeld => ?_)
    clear hK K
    refine normA (N := 27) ?_
    refine pureA 5 28 (lB 17 63) rfl rfl ?_
    refine pureA 6 29 (lB 17 127) rfl rfl ?_
    refine pureA 7 30 (lB 17 255) rfl rfl ?_
    refine pureA 8 31 (lB 17 511) rfl rfl ?_
    refine pureA 9 32 (lB 17 1023) rfl rfl ?_
    refine pureA 10 33 (lB 17 2047) rfl rfl ?_
    refine pureA 11 34 (lB 17 4095) rfl rfl ?_
    refine undA 12 35 (lB 17 8191) rfl rfl ?_
    refine undA 13 36 (lB 17 16383) rfl rfl ?_
    refine undA 14 37 (lB 17 32767) rfl rfl ?_
    refine pureA 15 38 (lB 17 65535) rfl rfl ?_
    refine pureA 16 0 (lB 17 131071) rfl rfl ?_
    refine done_ (done_of HT_.out (by kernel_rfl)) ?_
    try go_wp2
    go_ret
    exact ⟨zE, zH⟩
  ·rw [if_neg c7] at H
   have c7b0 : (t952 == t962 && (t953.toList == t963.toList && (t954.toList == t964.toList))) = false := by simpa using c7
   (try (have c7b1 : decide (t952 = t962 && (t953.toList == t963.toList && (t954.toList == t964.toList))) = false := by simpa using c7))
   (try (have c7b2 : (t952 == t962 && (t953.toList == t963.toList && (t954.toList == t964.toList))) = false := by simpa using c7))
   (try (have c7b3 : ¬ (t952 = t962 && (t953.toList == t963.toList && (t954.toList == t964.toList))) := by simpa using c7))
   clear c7
   obtain rfl := Option.some.inj H
   go_enter Tryd.func11, Tryd.ntmps11
   try go_wp2_with (first | (refine goesLA 7 Tryd.func27 #[.int .i64 1, .int .i64 10] ?_; (with_reducible refine (L0Ratio.calls k 1 10 t942 t943 t944 _ A1.out).mono ?_); rintro e w51 ⟨rfl, hb⟩; refine ⟨_, rfl, ?_⟩; have n0_ := sB hb; revert n0_; clear HB; intro HB; (try clear hb); (try clear hb2); (try clear hk); (try clear hi)) | ((with_reducible refine gate_dst (N := 9) rfl ?_); refine Kd.R_lit k54 _ 54 ?hg (N := 9) ?hd (xs := ([(⟨0, (⟨t942, t943, t944⟩ : S29)⟩ : S54)] : List (S54))) (inner := [.int .i64 0, .bool t942, .string t943, .string t944]) (ok := fun _ => True) (okp := fun _ => True) ?hr ?hp (fun _ hk => hk) trivial (Below.refl _ _) (Nat.le_refl _) (by simp) ?_; (case hd => rfl); (case hg => rfl); (case hr => first | (go_simp; done) | (go_simp; rfl)); (case hp => exact (Reps.c4 (show Kd.M k54 _ _ _ (⟨0, (⟨t942, t943, t944⟩ : S29)⟩ : S54) [.int .i64 0, .bool t942, .string t943, .string t944] from (k54_mkM _ _ _ (⟨0, (⟨t942, t943, t944⟩ : S29)⟩ : S54) )) (Reps.none _ _))); intro v946 w52 ho53 hb hg_ hnew_; clear hg_ hnew_; (first | rw [← Ny945.out] at ho53 | (simp only [Int.reduceToNat] at ho53; rw [← Ny945.out] at ho53)); have n0_ := Aside0.mk (Kd.R_lower ho53 (below_size zH)); have n1_ := sB hb; revert n0_ n1_; clear HB; intro HO947 HB; clear hb ho53) | (refine goesLA 10 Tryd.func28 #[.int .i64 36500] ?_; (with_reducible refine (L0Whole.calls k 36500 t948 t949 t950 _ A2.out).mono ?_); rintro e w54 ⟨rfl, hb⟩; refine ⟨_, rfl, ?_⟩; have n0_ := Aside0.mk (Kd.R_below zq3 hb); have n1_ := sB hb; revert n0_ n1_; clear HO947 HB; intro HO947 HB; (try clear hb); (try clear hb2); (try clear hk); (try clear hi)) | (refine box_evA 2 #[.bool false, .string (⟨#[]⟩ : ByteArray), .string (⟨#[]⟩ : ByteArray)] 29 ?_; intro gb951 hg w55 hbox hb; have n0_ := Aside0.mk (Kd.R_below zq3 hb); have n1_ := sB hb; have n2_ := Aside0.mk (hbox); have n3_ := wE w hg; have n4_ := wE w hg; revert n0_ n1_ n2_ n3_ n4_; clear HO947 HB; intro HO947 HB BK951 GW951 GE951; clear hb hbox hg; have hcz56_0 := cB BK951 0 (.bool false); have hcz56_1 := cB BK951 1 (.string (⟨#[]⟩ : ByteArray)); have hcz56_2 := cB BK951 2 (.string (⟨#[]⟩ : ByteArray)); have hfz56_0 := fB BK951 0; have hfz56_1 := fB BK951 1; have hfz56_2 := fB BK951 2; obtain ⟨Ao57, co57, eo57⟩ := Kd.R_slice HO947.out; subst eo57) | (refine goesLA 14 Tryd.func15 #[.agg #[.bool t948, .string t949, .string t950], .slice Ao57 y945.length co57, .int .i64 10, .int .i64 40, .int .i64 365] ?_; (with_reducible refine (I1Simple.calls k t948 t949 t950 _ _ y945 10 40 365 t952 t953 t954 t955 _ ?side1 ?side2 A3.out).mono ?_); (case side1 => refine (Kd.R_reads' (e := 54) (base := w.heap.size) (ok := fun k_ => True) (n := y945.length) (c := co57) ?_).2.2; exact zq10); (case side2 => exact (Kd.R_reads' HO947.out).2.1); rintro e w58 ⟨rfl, hb⟩; refine ⟨_, rfl, ?_⟩; have n0_ := Aside0.mk (Kd.R_below zq10 hb); have n1_ := Aside0.mk (blk_below (bC BK951) hb); have n2_ := sB hb; revert n0_ n1_ n2_; clear HO947 BK951 HB; intro HO947 BK951 HB; (try clear hb); (try clear hb2); (try clear hk); (try clear hi)) | (refine box_evA 3 #[.bool false, .string (⟨#[]⟩ : ByteArray), .string (⟨#[]⟩ : ByteArray)] 29 ?_; intro gb956 hg w59 hbox hb; have n0_ := Aside0.mk (Kd.R_below zq3 hb); have n1_ := bB BK951 hb; have n2_ := sB hb; have n3_ := Aside0.mk (hbox); have n4_ := wE w hg; have n5_ := wE w hg; have n6_ := Aside0.mk (nL BK951 hg); have n7_ := Aside0.mk (nG BK951 hg); revert n0_ n1_ n2_ n3_ n4_ n5_ n6_ n7_; clear HO947 BK951 HB; intro HO947 BK951 HB BK956 GW956 GE956 NB951_956 NB956_951; clear hb hbox hg; have hnb60 := NB956_951.out; have hnc60 := NB951_956.out; have hcz61_0 := cB BK956 0 (.bool false); have hcz61_1 := cB BK956 1 (.string (⟨#[]⟩ : ByteArray)); have hcz61_2 := cB BK956 2 (.string (⟨#[]⟩ : ByteArray)); have hfz61_0 := fB BK956 0; have hfz61_1 := fB BK956 1; have hfz61_2 := fB BK956 2; have hcz62_0 := cB BK951 0 (.bool t948); have hcz62_1 := cB BK951 1 (.string t949); have hcz62_2 := cB BK951 2 (.string t950); have hfz62_0 := fB BK951 0; have hfz62_1 := fB BK951 1; have hfz62_2 := fB BK951 2) | (refine goesLA 20 Tryd.func21 #[.agg #[.bool t948, .string t949, .string t950], .slice Ao57 y945.length co57, .int .i64 10, .int .i64 40, .int .i64 365, .int .i64 15] ?_; (with_reducible refine (I1Compound.calls k t948 t949 t950 _ _ y945 10 40 365 15 t957 t958 t959 t960 _ ?side1 ?side2 A4.out).mono ?_); (case side1 => refine (Kd.R_reads' (e := 54) (base := w.heap.size) (ok := fun k_ => True) (n := y945.length) (c := co57) ?_).2.2; exact zq11); (case side2 => exact (Kd.R_reads' HO947.out).2.1); rintro e w63 ⟨rfl, hb⟩; refine ⟨_, rfl, ?_⟩; have n0_ := Aside0.mk (Kd.R_below zq11 hb); have n1_ := Aside0.mk (blk_below (bC BK951) hb); have n2_ := Aside0.mk (blk_below (bC BK956) hb); have n3_ := sB hb; revert n0_ n1_ n2_ n3_; clear HO947 BK951 BK956 HB; intro HO947 BK951 BK956 HB; (try clear hb); (try clear hb2); (try clear hk); (try clear hi)) | (refine box_evA 5 #[.bool false, .string (⟨#[]⟩ : ByteArray), .string (⟨#[]⟩ : ByteArray)] 29 ?_; intro gb961 hg w64 hbox hb; have n0_ := Aside0.mk (Kd.R_below zq3 hb); have n1_ := bB BK951 hb; have n2_ := bB BK956 hb; have n3_ := sB hb; have n4_ := Aside0.mk (hbox); have n5_ := wE w hg; have n6_ := wE w hg; have n7_ := Aside0.mk (nL BK951 hg); have n8_ := Aside0.mk (nG BK951 hg); have n9_ := Aside0.mk (nL BK956 hg); have n10_ := Aside0.mk (nG BK956 hg); revert n0_ n1_ n2_ n3_ n4_ n5_ n6_ n7_ n8_ n9_ n10_; clear HO947 BK951 BK956 HB; intro HO947 BK951 BK956 HB BK961 GW961 GE961 NB951_961 NB961_951 NB956_961 NB961_956; clear hb hbox hg; have hnb65 := NB961_951.out; have hnc65 := NB951_961.out; have hnb66 := NB961_956.out; have hnc66 := NB956_961.out; have hcz67_0 := cB BK961 0 (.bool false); have hcz67_1 := cB BK961 1 (.string (⟨#[]⟩ : ByteArray)); have hcz67_2 := cB BK961 2 (.string (⟨#[]⟩ : ByteArray)); have hfz67_0 := fB BK961 0; have hfz67_1 := fB BK961 1; have hfz67_2 := fB BK961 2))
   generalize hW_ : (((w64.setCell ⟨gb961, 0, none⟩ (.bool t957)).setCell ⟨gb961, 1, none⟩ (.string t958)).setCell ⟨gb961, 2, none⟩ (.string t959)) = w68
   have n0_ : Aside0 (Kd.R k54 54 w68 w.heap.size (fun _ => True) (.slice Ao57 y945.length co57) y945) := ⟨by subst hW_; (with_reducible repeat (first | apply Kd.R_alloc | apply Kd.R_drewN | apply Kd.R_drew)); exact Kd.R_mono (Kd.R_far (p := ⟨gb961, 2, none⟩) (Kd.R_far (p := ⟨gb961, 1, none⟩) (Kd.R_far (p := ⟨gb961, 0, none⟩) (Kd.R_types HO947.out BK961.out (by decide)) (fun _ hk => hk.2) (.bool t957)) (fun _ hk => hk.2) (.string t958)) (fun _ hk => hk.2) (.string t959)) (fun _ hk => trivial)⟩
   have n1_ : Aside0 (w68.heap[gb951]? = some (.cells #[.bool t948, .string t949, .string t950] 29 (0, 0))) := ⟨by subst hW_; exact bC BK951⟩
   have n2_ : Aside0 (w68.heap[gb956]? = some (.cells #[.bool t952, .string t953, .string t954] 29 (0, 0))) := ⟨by subst hW_; exact bC BK956⟩
   have n3_ : Aside0 (w68.heap[gb961]? = some (.cells #[.bool t957, .string t958, .string t959] 29 (0, 0))) := ⟨by subst hW_; exact bC BK961⟩
   have n4_ : Aside0 (Below w.heap.size w w68) := ⟨by subst hW_; exact zH⟩
   clear hW_
   (try clear HO947); (try clear BK951); (try clear BK956); (try clear BK961); (try clear HB)
   have HO947 := n0_
   have BK951 := n1_
   have BK956 := n2_
   have BK961 := n3_
   have HB := n4_
   clear n0_ n1_ n2_ n3_ n4_
   have n0_ := Aside0.mk (Kd.R_drew HO947.out)
   have n1_ := Aside0.mk (blk_drew BK951.out)
   have n2_ := Aside0.mk (blk_drew BK956.out)
   have n3_ := Aside0.mk (blk_drew BK961.out)
   have n4_ := Aside0.mk (below_drew1 HB.out)
   revert n0_ n1_ n2_ n3_ n4_
   clear HO947 BK951 BK956 BK961 HB
   intro HO947 BK951 BK956 BK961 HB
   refine start_ (n := 17) (S := fun w' => w'.cell? ⟨gb956, 0, none⟩ = some (.bool t952) ∧ w'.cell? ⟨gb956, 1, none⟩ = some (.string t953) ∧ w'.cell? ⟨gb956, 2, none⟩ = some (.string t954)) (ds := []) #[false, false, false, false, false, false, false, false, false, false, false, false, false, false, false, false, false] (by kernel_rfl) rfl rfl ⟨cA BK956 0, cA BK956 1, cA BK956 2⟩ (fun hHeld => ?_); refine with_tabW L6awake.tab5 L6awake.bits5 (fun HT_ HW_ => ?_)
   generalize w68.drew = w69 at HO947 BK951 BK956 BK961 HB hHeld ⊢
   refine pureA 0 23 (lB 17 1) rfl rfl ?_
   refine pureA 1 24 (lB 17 3) rfl rfl ?_
   refine pureA 2 25 (lB 17 7) rfl rfl ?_
   refine takeA 3 26 (lB 17 15) rfl rfl hHeld ?_
   refine oneA 4 27 (lB 17 31) rfl rfl (fun K hK => ?_)
   refine goes_ Tryd.func28 (by kernel_rfl) rfl #[.int .i64 300] (by rfl) rfl rfl zq2 ?_
   with_reducible refine (L0Whole.calls k 300 t962 t963 t964 _ A6.out).mono ?_
   rintro e w70 ⟨rfl, hb⟩
   refine ⟨_, rfl, ?_⟩
   have n0_ := Aside0.mk (Kd.R_below zq3 hb)
   have n1_ := bB BK951 hb
   have n2_ := bB BK956 hb
   have n3_ := bB BK961 hb
   have n4_ := sB hb
   revert n0_ n1_ n2_ n3_ n4_
   clear HO947 BK951 BK956 BK961 HB
   intro HO947 BK951 BK956 BK961 HB
   (try clear hb); (try clear hb2); (try clear hk); (try clear hi)
   refine hK.out _ _ ⟨cA BK956 0, cA BK956 1, cA BK956 2⟩ (fun hHeld => ?_)
   clear hK K
   refine normA (N := 27) ?_
   refine pureA 5 28 (lB 17 63) rfl rfl ?_
   refine pureA 6 29 (lB 17 127) rfl rfl ?_
   refine pureA 7 30 (lB 17 255) rfl rfl ?_
   refine undA 8 31 (lB 17 511) rfl rfl ?_
   refine undA 9 32 (lB 17 1023) rfl rfl ?_
   refine pureA 10 33 (lB 17 2047) rfl rfl ?_
   refine pureA 11 34 (lB 17 4095) rfl rfl ?_
   refine undA 12 35 (lB 17 8191) rfl rfl ?_
   refine undA 13 36 (lB 17 16383) rfl rfl ?_
   refine undA 14 37 (lB 17 32767) rfl rfl ?_
   refine pureA 15 38 (lB 17 65535) rfl rfl ?_
   refine pureA 16 0 (lB 17 131071) rfl rfl ?_
   refine done_ (done_of HT_.out (by kernel_rfl)) ?_
   try go_wp2
   go_ret
   exact ⟨zE, zH⟩
 ·rw [if_neg c5] at H
  have c5b0 := beq_eq_false_iff_ne.mpr c5
  have c5b1 := bne_iff_ne.mpr c5
  obtain rfl := Option.some.inj H
  go_enter Tryd.func11, Tryd.ntmps11
  try go_wp2_with (first | (refine goesLA 7 Tryd.func27 #[.int .i64 1, .int .i64 10] ?_; (with_reducible refine (L0Ratio.calls k 1 10 t942 t943 t944 _ A1.out).mono ?_); rintro e w71 ⟨rfl, hb⟩; refine ⟨_, rfl, ?_⟩; have n0_ := sB hb; revert n0_; clear HB; intro HB; (try clear hb); (try clear hb2); (try clear hk); (try clear hi)) | ((with_reducible refine gate_dst (N := 9) rfl ?_); refine Kd.R_lit k54 _ 54 ?hg (N := 9) ?hd (xs := ([(⟨0, (⟨t942, t943, t944⟩ : S29)⟩ : S54)] : List (S54))) (inner := [.int .i64 0, .bool t942, .string t943, .string t944]) (ok := fun _ => True) (okp := fun _ => True) ?hr ?hp (fun _ hk => hk) trivial (Below.refl _ _) (Nat.le_refl _) (by simp) ?_; (case hd => rfl); (case hg => rfl); (case hr => first | (go_simp; done) | (go_simp; rfl)); (case hp => exact (Reps.c4 (show Kd.M k54 _ _ _ (⟨0, (⟨t942, t943, t944⟩ : S29)⟩ : S54) [.int .i64 0, .bool t942, .string t943, .string t944] from (k54_mkM _ _ _ (⟨0, (⟨t942, t943, t944⟩ : S29)⟩ : S54) )) (Reps.none _ _))); intro v946 w72 ho73 hb hg_ hnew_; clear hg_ hnew_; (first | rw [← Ny945.out] at ho73 | (simp only [Int.reduceToNat] at ho73; rw [← Ny945.out] at ho73)); have n0_ := Aside0.mk (Kd.R_lower ho73 (below_size zH)); have n1_ := sB hb; revert n0_ n1_; clear HB; intro HO947 HB; clear hb ho73) | (refine goesLA 10 Tryd.func28 #[.int .i64 36500] ?_; (with_reducible refine (L0Whole.calls k 36500 t948 t949 t950 _ A2.out).mono ?_); rintro e w74 ⟨rfl, hb⟩; refine ⟨_, rfl, ?_⟩; have n0_ := Aside0.mk (Kd.R_below zq3 hb); have n1_ := sB hb; revert n0_ n1_; clear HO947 HB; intro HO947 HB; (try clear hb); (try clear hb2); (try clear hk); (try clear hi)) | (refine box_evA 2 #[.bool false, .string (⟨#[]⟩ : ByteArray), .string (⟨#[]⟩ : ByteArray)] 29 ?_; intro gb951 hg w75 hbox hb; have n0_ := Aside0.mk (Kd.R_below zq3 hb); have n1_ := sB hb; have n2_ := Aside0.mk (hbox); have n3_ := wE w hg; have n4_ := wE w hg; revert n0_ n1_ n2_ n3_ n4_; clear HO947 HB; intro HO947 HB BK951 GW951 GE951; clear hb hbox hg; have hcz76_0 := cB BK951 0 (.bool false); have hcz76_1 := cB BK951 1 (.string (⟨#[]⟩ : ByteArray)); have hcz76_2 := cB BK951 2 (.string (⟨#[]⟩ : ByteArray)); have hfz76_0 := fB BK951 0; have hfz76_1 := fB BK951 1; have hfz76_2 := fB BK951 2; obtain ⟨Ao77, co77, eo77⟩ := Kd.R_slice HO947.out; subst eo77) | (refine goesLA 14 Tryd.func15 #[.agg #[.bool t948, .string t949, .string t950], .slice Ao77 y945.length co77, .int .i64 10, .int .i64 40, .int .i64 365] ?_; (with_reducible refine (I1Simple.calls k t948 t949 t950 _ _ y945 10 40 365 t952 t953 t954 t955 _ ?side1 ?side2 A3.out).mono ?_); (case side1 => refine (Kd.R_reads' (e := 54) (base := w.heap.size) (ok := fun k_ => True) (n := y945.length) (c := co77) ?_).2.2; exact zq10); (case side2 => exact (Kd.R_reads' HO947.out).2.1); rintro e w78 ⟨rfl, hb⟩; refine ⟨_, rfl, ?_⟩; have n0_ := Aside0.mk (Kd.R_below zq10 hb); have n1_ := Aside0.mk (blk_below (bC BK951) hb); have n2_ := sB hb; revert n0_ n1_ n2_; clear HO947 BK951 HB; intro HO947 BK951 HB; (try clear hb); (try clear hb2); (try clear hk); (try clear hi)) | (refine box_evA 3 #[.bool false, .string (⟨#[]⟩ : ByteArray), .string (⟨#[]⟩ : ByteArray)] 29 ?_; intro gb956 hg w79 hbox hb; have n0_ := Aside0.mk (Kd.R_below zq3 hb); have n1_ := bB BK951 hb; have n2_ := sB hb; have n3_ := Aside0.mk (hbox); have n4_ := wE w hg; have n5_ := wE w hg; have n6_ := Aside0.mk (nL BK951 hg); have n7_ := Aside0.mk (nG BK951 hg); revert n0_ n1_ n2_ n3_ n4_ n5_ n6_ n7_; clear HO947 BK951 HB; intro HO947 BK951 HB BK956 GW956 GE956 NB951_956 NB956_951; clear hb hbox hg; have hnb80 := NB956_951.out; have hnc80 := NB951_956.out; have hcz81_0 := cB BK956 0 (.bool false); have hcz81_1 := cB BK956 1 (.string (⟨#[]⟩ : ByteArray)); have hcz81_2 := cB BK956 2 (.string (⟨#[]⟩ : ByteArray)); have hfz81_0 := fB BK956 0; have hfz81_1 := fB BK956 1; have hfz81_2 := fB BK956 2; have hcz82_0 := cB BK951 0 (.bool t948); have hcz82_1 := cB BK951 1 (.string t949); have hcz82_2 := cB BK951 2 (.string t950); have hfz82_0 := fB BK951 0; have hfz82_1 := fB BK951 1; have hfz82_2 := fB BK951 2) | (refine goesLA 20 Tryd.func21 #[.agg #[.bool t948, .string t949, .string t950], .slice Ao77 y945.length co77, .int .i64 10, .int .i64 40, .int .i64 365, .int .i64 15] ?_; (with_reducible refine (I1Compound.calls k t948 t949 t950 _ _ y945 10 40 365 15 t957 t958 t959 t960 _ ?side1 ?side2 A4.out).mono ?_); (case side1 => refine (Kd.R_reads' (e := 54) (base := w.heap.size) (ok := fun k_ => True) (n := y945.length) (c := co77) ?_).2.2; exact zq11); (case side2 => exact (Kd.R_reads' HO947.out).2.1); rintro e w83 ⟨rfl, hb⟩; refine ⟨_, rfl, ?_⟩; have n0_ := Aside0.mk (Kd.R_below zq11 hb); have n1_ := Aside0.mk (blk_below (bC BK951) hb); have n2_ := Aside0.mk (blk_below (bC BK956) hb); have n3_ := sB hb; revert n0_ n1_ n2_ n3_; clear HO947 BK951 BK956 HB; intro HO947 BK951 BK956 HB; (try clear hb); (try clear hb2); (try clear hk); (try clear hi)) | (refine box_evA 5 #[.bool false, .string (⟨#[]⟩ : ByteArray), .string (⟨#[]⟩ : ByteArray)] 29 ?_; intro gb961 hg w84 hbox hb; have n0_ := Aside0.mk (Kd.R_below zq3 hb); have n1_ := bB BK951 hb; have n2_ := bB BK956 hb; have n3_ := sB hb; have n4_ := Aside0.mk (hbox); have n5_ := wE w hg; have n6_ := wE w hg; have n7_ := Aside0.mk (nL BK951 hg); have n8_ := Aside0.mk (nG BK951 hg); have n9_ := Aside0.mk (nL BK956 hg); have n10_ := Aside0.mk (nG BK956 hg); revert n0_ n1_ n2_ n3_ n4_ n5_ n6_ n7_ n8_ n9_ n10_; clear HO947 BK951 BK956 HB; intro HO947 BK951 BK956 HB BK961 GW961 GE961 NB951_961 NB961_951 NB956_961 NB961_956; clear hb hbox hg; have hnb85 := NB961_951.out; have hnc85 := NB951_961.out; have hnb86 := NB961_956.out; have hnc86 := NB956_961.out; have hcz87_0 := cB BK961 0 (.bool false); have hcz87_1 := cB BK961 1 (.string (⟨#[]⟩ : ByteArray)); have hcz87_2 := cB BK961 2 (.string (⟨#[]⟩ : ByteArray)); have hfz87_0 := fB BK961 0; have hfz87_1 := fB BK961 1; have hfz87_2 := fB BK961 2))
  generalize hW_ : (((w84.setCell ⟨gb961, 0, none⟩ (.bool t957)).setCell ⟨gb961, 1, none⟩ (.string t958)).setCell ⟨gb961, 2, none⟩ (.string t959)) = w88
  have n0_ : Aside0 (Kd.R k54 54 w88 w.heap.size (fun _ => True) (.slice Ao77 y945.length co77) y945) := ⟨by subst hW_; (with_reducible repeat (first | apply Kd.R_alloc | apply Kd.R_drewN | apply Kd.R_drew)); exact Kd.R_mono (Kd.R_far (p := ⟨gb961, 2, none⟩) (Kd.R_far (p := ⟨gb961, 1, none⟩) (Kd.R_far (p := ⟨gb961, 0, none⟩) (Kd.R_types HO947.out BK961.out (by decide)) (fun _ hk => hk.2) (.bool t957)) (fun _ hk => hk.2) (.string t958)) (fun _ hk => hk.2) (.string t959)) (fun _ hk => trivial)⟩
  have n1_ : Aside0 (w88.heap[gb951]? = some (.cells #[.bool t948, .string t949, .string t950] 29 (0, 0))) := ⟨by subst hW_; exact bC BK951⟩
  have n2_ : Aside0 (w88.heap[gb956]? = some (.cells #[.bool t952, .string t953, .string t954] 29 (0, 0))) := ⟨by subst hW_; exact bC BK956⟩
  have n3_ : Aside0 (w88.heap[gb961]? = some (.cells #[.bool t957, .string t958, .string t959] 29 (0, 0))) := ⟨by subst hW_; exact bC BK961⟩
  have n4_ : Aside0 (Below w.heap.size w w88) := ⟨by subst hW_; exact zH⟩
  clear hW_
  (try clear HO947); (try clear BK951); (try clear BK956); (try clear BK961); (try clear HB)
  have HO947 := n0_
  have BK951 := n1_
  have BK956 := n2_
  have BK961 := n3_
  have HB := n4_
  clear n0_ n1_ n2_ n3_ n4_
  have n0_ := Aside0.mk (Kd.R_drew HO947.out)
  have n1_ := Aside0.mk (blk_drew BK951.out)
  have n2_ := Aside0.mk (blk_drew BK956.out)
  have n3_ := Aside0.mk (blk_drew BK961.out)
  have n4_ := Aside0.mk (below_drew1 HB.out)
  revert n0_ n1_ n2_ n3_ n4_
  clear HO947 BK951 BK956 BK961 HB
  intro HO947 BK951 BK956 BK961 HB
  refine start_ (n := 17) (S := fun w' => True) (ds := []) #[false, false, false, false, false, false, false, false, false, false, false, false, false, false, false, false, false] (by kernel_rfl) rfl rfl trivial (fun hHeld => ?_); refine with_tabW L6awake.tab5 L6awake.bits5 (fun HT_ HW_ => ?_)
  generalize w88.drew = w89 at HO947 BK951 BK956 BK961 HB hHeld ⊢
  refine pureA 0 23 (lB 17 1) rfl rfl ?_
  refine pureA 1 24 (lB 17 3) rfl rfl ?_
  refine pureA 2 25 (lB 17 7) rfl rfl ?_
  refine undA 3 26 (lB 17 15) rfl rfl ?_
  refine undA 4 27 (lB 17 31) rfl rfl ?_
  refine undA 5 28 (lB 17 63) rfl rfl ?_
  refine pureA 6 29 (lB 17 127) rfl rfl ?_
  refine pureA 7 30 (lB 17 255) rfl rfl ?_
  refine undA 8 31 (lB 17 511) rfl rfl ?_
  refine undA 9 32 (lB 17 1023) rfl rfl ?_
  refine pureA 10 33 (lB 17 2047) rfl rfl ?_
  refine pureA 11 34 (lB 17 4095) rfl rfl ?_
  refine undA 12 35 (lB 17 8191) rfl rfl ?_
  refine undA 13 36 (lB 17 16383) rfl rfl ?_
  refine undA 14 37 (lB 17 32767) rfl rfl ?_
  refine pureA 15 38 (lB 17 65535) rfl rfl ?_
  refine pureA 16 0 (lB 17 131071) rfl rfl ?_
  refine done_ (done_of HT_.out (by kernel_rfl)) ?_
  try go_wp2
  go_ret
  exact ⟨zE, zH⟩
end Go.Proofs.YtggfilmdfpmbmaaDoor.QN
end
section
namespace Go.Proofs.YtggfilmdfpmbmaaDoor.QN
open Go.RowKit Go.Proofs.YtggfilmdfpmbmaaDoorW.PrintWords Go.Proofs.YtggfilmdfpmbmaaDoorW.PrintLast Go.Proofs.YtggfilmdfpmbmaaDoorW.PrintMore
attribute [local go_sem] max2_int min2_int max_two min_two max_three min_three max_four min_four   -- for this text's walks alone
set_option linter.unusedVariables false
set_option linter.unusedSimpArgs false
attribute [local go_sem high] eqA29
def L6InterestRate.f (k : Nat) (l0 : List (S54)) (a1 : Int) : Option (Bool) := (L6few.f k l0).bind fun t1058 => (if t1058 = true then ((I1Rate.f k l0 a1).bind fun bt1059 => ((R1InterestRate.f k l0 a1).bind fun bt1064 => ((L6awake.f k).bind fun t1069 => (if t1069 = true then (if (bt1059.1 == bt1064.1 && (bt1059.2.1.toList == bt1064.2.1.toList && (bt1059.2.2.1.toList == bt1064.2.2.1.toList))) = true then (some (bt1059.2.2.2 == bt1064.2.2.2)) else (some false)) else (some false))))) else ((L6awake.f k).bind fun t1070 => (some t1070)))
set_option maxHeartbeats 8000000 in
set_option maxRecDepth 100000 in
theorem L6InterestRate.calls (k : Nat) (A0 : Option Addr) (c0 : Nat) (l0 : List (S54)) (a1 : Int) (r : Bool) (w : World) (hr0 : Kd.C k54 w A0 l0.length l0) (hc0 : l0.length ≤ c0) (h : L6InterestRate.f k l0 a1 = some r) :
 Calls Tryd.prog 7 #[.slice A0 l0.length c0, .int .i64 a1] w fun e w' => e = .returned (.bool r) ∧ Below w.heap.size w w' := by
 have hu29 := Tryd.underlying29
 have HR0 := Aside0.mk hr0
 have HC0 := Aside0.mk hc0
 clear hr0 hc0
 have HB := Aside0.mk (Below.refl w.heap.size w)
 have H : ((L6few.f k l0).bind fun t1058 => (if t1058 = true then ((I1Rate.f k l0 a1).bind fun bt1059 => ((R1InterestRate.f k l0 a1).bind fun bt1064 => ((L6awake.f k).bind fun t1069 => (if t1069 = true then (if (bt1059.1 == bt1064.1 && (bt1059.2.1.toList == bt1064.2.1.toList && (bt1059.2.2.1.toList == bt1064.2.2.1.toList))) = true then (some (bt1059.2.2.2 == bt1064.2.2.2)) else (some false)) else (some false))))) else ((L6awake.f k).bind fun t1070 => (some t1070)))) = some r := h
 clear h
 replace H := bS H
 obtain ⟨t1058, A3, H⟩ := H
 by_cases c4 : t1058 = true
 ·subst c4
  have H1 : ((I1Rate.f k l0 a1).bind fun bt1059 => ((R1InterestRate.f k l0 a1).bind fun bt1064 => ((L6awake.f k).bind fun t1069 => (if t1069 = true then (if (bt1059.1 == bt1064.1 && (bt1059.2.1.toList == bt1064.2.1.toList && (bt1059.2.2.1.toList == bt1064.2.2.1.toList))) = true then (some (bt1059.2.2.2 == bt1064.2.2.2)) else (some false)) else (some false))))) = some r := by rw [if_pos rfl] at H; exact H
  clear H
  have H := H1
  clear H1
  replace H := bS H
  obtain ⟨⟨t1059, t1060, t1061, t1062⟩, A5, H⟩ := H
  (try dsimp only at H)
  replace H := bS H
  obtain ⟨⟨t1064, t1065, t1066, t1067⟩, A6, H⟩ := H
  (try dsimp only at H)
  replace H := bS H
  obtain ⟨t1069, A7, H⟩ := H
  by_cases c8 : t1069 = true
  ·subst c8
   have H1 : (if (t1059 == t1064 && (t1060.toList == t1065.toList && (t1061.toList == t1066.toList))) = true then (some (t1062 == t1067)) else (some false)) = some r := by rw [if_pos rfl] at H; exact H
   clear H
   have H := H1
   clear H1
   by_cases c9 : (t1059 == t1064 && (t1060.toList == t1065.toList && (t1061.toList == t1066.toList))) = true
   ·rw [if_pos c9] at H
    have c9b0 : (t1059 == t1064 && (t1060.toList == t1065.toList && (t1061.toList == t1066.toList))) = true := c9
    (try (have c9b1 : decide (t1059 = t1064 && (t1060.toList == t1065.toList && (t1061.toList == t1066.toList))) = true := by simpa using c9))
    (try (have c9b2 : (t1059 == t1064 && (t1060.toList == t1065.toList && (t1061.toList == t1066.toList))) = true := by simpa using c9))
    clear c9
    obtain rfl := Option.some.inj H
    go_enter Tryd.func7, Tryd.ntmps7
    go_wp2_with (first | (refine goesLA 10 Tryd.func10 #[.slice A0 l0.length c0] ?_; (with_reducible refine (L6few.calls k _ _ l0 true _ ?side1 ?side2 A3.out).mono ?_); (case side1 => exact sC HR0.out); (case side2 => exact HC0.out); rintro e w10 ⟨rfl, hb⟩; refine ⟨_, rfl, ?_⟩; have n0_ := sB hb; revert n0_; clear HB; intro HB; (try clear hb); (try clear hb2); (try clear hk); (try clear hi)) | (refine goesLA 16 Tryd.func22 #[.slice A0 l0.length c0, .int .i64 a1] ?_; (with_reducible refine (I1Rate.calls k _ _ l0 a1 t1059 t1060 t1061 t1062 _ ?side1 ?side2 A5.out).mono ?_); (case side1 => exact sC (Kd.C_below HR0.out HB.out)); (case side2 => exact HC0.out); rintro e w11 ⟨rfl, hb⟩; refine ⟨_, rfl, ?_⟩; have n0_ := sB hb; revert n0_; clear HB; intro HB; (try clear hb); (try clear hb2); (try clear hk); (try clear hi)) | (refine box_evA 5 #[.bool false, .string (⟨#[]⟩ : ByteArray), .string (⟨#[]⟩ : ByteArray)] 29 ?_; intro gb1063 hg w12 hbox hb; obtain ⟨n0_, n1_, n2_, n3_⟩ := bx4 w hbox hb hg; revert n0_ n1_ n2_ n3_; clear HB; intro HB BK1063 GW1063 GE1063; clear hb hbox hg; have hcz13_0 := cB BK1063 0 (.bool false); have hcz13_1 := cB BK1063 1 (.string (⟨#[]⟩ : ByteArray)); have hcz13_2 := cB BK1063 2 (.string (⟨#[]⟩ : ByteArray)); have hfz13_0 := fB BK1063 0; have hfz13_1 := fB BK1063 1; have hfz13_2 := fB BK1063 2) | (refine goesLA 22 Tryd.func23 #[.slice A0 l0.length c0, .int .i64 a1] ?_; (with_reducible refine (R1InterestRate.calls k _ _ l0 a1 t1064 t1065 t1066 t1067 _ ?side1 ?side2 A6.out).mono ?_); (case side1 => exact Kd.C_below HR0.out zH); (case side2 => exact HC0.out); rintro e w14 ⟨rfl, hb⟩; refine ⟨_, rfl, ?_⟩; have n0_ := Aside0.mk (blk_below (bC BK1063) hb); have n1_ := sB hb; revert n0_ n1_; clear BK1063 HB; intro BK1063 HB; (try clear hb); (try clear hb2); (try clear hk); (try clear hi)) | (refine box_evA 7 #[.bool false, .string (⟨#[]⟩ : ByteArray), .string (⟨#[]⟩ : ByteArray)] 29 ?_; intro gb1068 hg w15 hbox hb; have n0_ := bB BK1063 hb; have n1_ := sB hb; have n2_ := Aside0.mk (hbox); have n3_ := wE w hg; have n4_ := wE w hg; have n5_ := Aside0.mk (nL BK1063 hg); have n6_ := Aside0.mk (nG BK1063 hg); revert n0_ n1_ n2_ n3_ n4_ n5_ n6_; clear BK1063 HB; intro BK1063 HB BK1068 GW1068 GE1068 NB1063_1068 NB1068_1063; clear hb hbox hg; have hnb16 := NB1068_1063.out; have hnc16 := NB1063_1068.out; have hcz17_0 := cB BK1068 0 (.bool false); have hcz17_1 := cB BK1068 1 (.string (⟨#[]⟩ : ByteArray)); have hcz17_2 := cB BK1068 2 (.string (⟨#[]⟩ : ByteArray)); have hfz17_0 := fB BK1068 0; have hfz17_1 := fB BK1068 1; have hfz17_2 := fB BK1068 2) | (refine goesLA 25 Tryd.func11 #[] ?_; (with_reducible refine (L6awake.calls k  true _ A7.out).mono ?_); rintro e w18 ⟨rfl, hb⟩; refine ⟨_, rfl, ?_⟩; have n0_ := Aside0.mk (blk_below (bC BK1063) hb); have n1_ := Aside0.mk (blk_below (bC BK1068) hb); have n2_ := sB hb; revert n0_ n1_ n2_; clear BK1063 BK1068 HB; intro BK1063 BK1068 HB; (try clear hb); (try clear hb2); (try clear hk); (try clear hi); have hcz19_0 := cB BK1063 0 (.bool t1059); have hcz19_1 := cB BK1063 1 (.string t1060); have hcz19_2 := cB BK1063 2 (.string t1061); have hfz19_0 := fB BK1063 0; have hfz19_1 := fB BK1063 1; have hfz19_2 := fB BK1063 2; have hcz20_0 := cB BK1068 0 (.bool t1064); have hcz20_1 := cB BK1068 1 (.string t1065); have hcz20_2 := cB BK1068 2 (.string t1066); have hfz20_0 := fB BK1068 0; have hfz20_1 := fB BK1068 1; have hfz20_2 := fB BK1068 2))
    go_ret
    exact ⟨zE, zH⟩
   ·rw [if_neg c9] at H
    have c9b0 : (t1059 == t1064 && (t1060.toList == t1065.toList && (t1061.toList == t1066.toList))) = false := by simpa using c9
    (try (have c9b1 : decide (t1059 = t1064 && (t1060.toList == t1065.toList && (t1061.toList == t1066.toList))) = false := by simpa using c9))
    (try (have c9b2 : (t1059 == t1064 && (t1060.toList == t1065.toList && (t1061.toList == t1066.toList))) = false := by simpa using c9))
    (try (have c9b3 : ¬ (t1059 = t1064 && (t1060.toList == t1065.toList && (t1061.toList == t1066.toList))) := by simpa using c9))
    clear c9
    obtain rfl := Option.some.inj H
    go_enter Tryd.func7, Tryd.ntmps7
    go_wp2_with (first | (refine goesLA 10 Tryd.func10 #[.slice A0 l0.length c0] ?_; (with_reducible refine (L6few.calls k _ _ l0 true _ ?side1 ?side2 A3.out).mono ?_); (case side1 => exact sC HR0.out); (case side2 => exact HC0.out); rintro e w21 ⟨rfl, hb⟩; refine ⟨_, rfl, ?_⟩; have n0_ := sB hb; revert n0_; clear HB; intro HB; (try clear hb); (try clear hb2); (try clear hk); (try clear hi)) | (refine goesLA 16 Tryd.func22 #[.slice A0 l0.length c0, .int .i64 a1] ?_; (with_reducible refine (I1Rate.calls k _ _ l0 a1 t1059 t1060 t1061 t1062 _ ?side1 ?side2 A5.out).mono ?_); (case side1 => exact sC (Kd.C_below HR0.out HB.out)); (case side2 => exact HC0.out); rintro e w22 ⟨rfl, hb⟩; refine ⟨_, rfl, ?_⟩; have n0_ := sB hb; revert n0_; clear HB; intro HB; (try clear hb); (try clear hb2); (try clear hk); (try clear hi)) | (refine box_evA 5 #[.bool false, .string (⟨#[]⟩ : ByteArray), .string (⟨#[]⟩ : ByteArray)] 29 ?_; intro gb1063 hg w23 hbox hb; obtain ⟨n0_, n1_, n2_, n3_⟩ := bx4 w hbox hb hg; revert n0_ n1_ n2_ n3_; clear HB; intro HB BK1063 GW1063 GE1063; clear hb hbox hg; have hcz24_0 := cB BK1063 0 (.bool false); have hcz24_1 := cB BK1063 1 (.string (⟨#[]⟩ : ByteArray)); have hcz24_2 := cB BK1063 2 (.string (⟨#[]⟩ : ByteArray)); have hfz24_0 := fB BK1063 0; have hfz24_1 := fB BK1063 1; have hfz24_2 := fB BK1063 2) | (refine goesLA 22 Tryd.func23 #[.slice A0 l0.length c0, .int .i64 a1] ?_; (with_reducible refine (R1InterestRate.calls k _ _ l0 a1 t1064 t1065 t1066 t1067 _ ?side1 ?side2 A6.out).mono ?_); (case side1 => exact Kd.C_below HR0.out zH); (case side2 => exact HC0.out); rintro e w25 ⟨rfl, hb⟩; refine ⟨_, rfl, ?_⟩; have n0_ := Aside0.mk (blk_below (bC BK1063) hb); have n1_ := sB hb; revert n0_ n1_; clear BK1063 HB; intro BK1063 HB; (try clear hb); (try clear hb2); (try clear hk); (try clear hi)) | (refine box_evA 7 #[.bool false, .string (⟨#[]⟩ : ByteArray), .string (⟨#[]⟩ : ByteArray)] 29 ?_; intro gb1068 hg w26 hbox hb; have n0_ := bB BK1063 hb; have n1_ := sB hb; have n2_ := Aside0.mk (hbox); have n3_ := wE w hg; have n4_ := wE w hg; have n5_ := Aside0.mk (nL BK1063 hg); have n6_ := Aside0.mk (nG BK1063 hg); revert n0_ n1_ n2_ n3_ n4_ n5_ n6_; clear BK1063 HB; intro BK1063 HB BK1068 GW1068 GE1068 NB1063_1068 NB1068_1063; clear hb hbox hg; have hnb27 := NB1068_1063.out; have hnc27 := NB1063_1068.out; have hcz28_0 := cB BK1068 0 (.bool false); have hcz28_1 := cB BK1068 1 (.string (⟨#[]⟩ : ByteArray)); have hcz28_2 := cB BK1068 2 (.string (⟨#[]⟩ : ByteArray)); have hfz28_0 := fB BK1068 0; have hfz28_1 := fB BK1068 1; have hfz28_2 := fB BK1068 2) | (refine goesLA 25 Tryd.func11 #[] ?_; (with_reducible refine (L6awake.calls k  true _ A7.out).mono ?_); rintro e w29 ⟨rfl, hb⟩; refine ⟨_, rfl, ?_⟩; have n0_ := Aside0.mk (blk_below (bC BK1063) hb); have n1_ := Aside0.mk (blk_below (bC BK1068) hb); have n2_ := sB hb; revert n0_ n1_ n2_; clear BK1063 BK1068 HB; intro BK1063 BK1068 HB; (try clear hb); (try clear hb2); (try clear hk); (try clear hi); have hcz30_0 := cB BK1063 0 (.bool t1059); have hcz30_1 := cB BK1063 1 (.string t1060); have hcz30_2 := cB BK1063 2 (.string t1061); have hfz30_0 := fB BK1063 0; have hfz30_1 := fB BK1063 1; have hfz30_2 := fB BK1063 2; have hcz31_0 := cB BK1068 0 (.bool t1064); have hcz31_1 := cB BK1068 1 (.string t1065); have hcz31_2 := cB BK1068 2 (.string t1066); have hfz31_0 := fB BK1068 0; have hfz31_1 := fB BK1068 1; have hfz31_2 := fB BK1068 2))
    go_ret
    exact ⟨zE, zH⟩
  ·replace c8 := Bool.eq_false_iff.mpr c8
   subst c8
   have H1 : (some false) = some r := by rw [if_neg (show ¬ (false = true) by decide)] at H; exact H
   clear H
   have H := H1
   clear H1
   obtain rfl := Option.some.inj H
   go_enter Tryd.func7, Tryd.ntmps7
   go_wp2_with (first | (refine goesLA 10 Tryd.func10 #[.slice A0 l0.length c0] ?_; (with_reducible refine (L6few.calls k _ _ l0 true _ ?side1 ?side2 A3.out).mono ?_); (case side1 => exact sC HR0.out); (case side2 => exact HC0.out); rintro e w32 ⟨rfl, hb⟩; refine ⟨_, rfl, ?_⟩; have n0_ := sB hb; revert n0_; clear HB; intro HB; (try clear hb); (try clear hb2); (try clear hk); (try clear hi)) | (refine goesLA 16 Tryd.func22 #[.slice A0 l0.length c0, .int .i64 a1] ?_; (with_reducible refine (I1Rate.calls k _ _ l0 a1 t1059 t1060 t1061 t1062 _ ?side1 ?side2 A5.out).mono ?_); (case side1 => exact sC (Kd.C_below HR0.out HB.out)); (case side2 => exact HC0.out); rintro e w33 ⟨rfl, hb⟩; refine ⟨_, rfl, ?_⟩; have n0_ := sB hb; revert n0_; clear HB; intro HB; (try clear hb); (try clear hb2); (try clear hk); (try clear hi)) | (refine box_evA 5 #[.bool false, .string (⟨#[]⟩ : ByteArray), .string (⟨#[]⟩ : ByteArray)] 29 ?_; intro gb1063 hg w34 hbox hb; obtain ⟨n0_, n1_, n2_, n3_⟩ := bx4 w hbox hb hg; revert n0_ n1_ n2_ n3_; clear HB; intro HB BK1063 GW1063 GE1063; clear hb hbox hg; have hcz35_0 := cB BK1063 0 (.bool false); have hcz35_1 := cB BK1063 1 (.string (⟨#[]⟩ : ByteArray)); have hcz35_2 := cB BK1063 2 (.string (⟨#[]⟩ : ByteArray)); have hfz35_0 := fB BK1063 0; have hfz35_1 := fB BK1063 1; have hfz35_2 := fB BK1063 2) | (refine goesLA 22 Tryd.func23 #[.slice A0 l0.length c0, .int .i64 a1] ?_; (with_reducible refine (R1InterestRate.calls k _ _ l0 a1 t1064 t1065 t1066 t1067 _ ?side1 ?side2 A6.out).mono ?_); (case side1 => exact Kd.C_below HR0.out zH); (case side2 => exact HC0.out); rintro e w36 ⟨rfl, hb⟩; refine ⟨_, rfl, ?_⟩; have n0_ := Aside0.mk (blk_below (bC BK1063) hb); have n1_ := sB hb; revert n0_ n1_; clear BK1063 HB; intro BK1063 HB; (try clear hb); (try clear hb2); (try clear hk); (try clear hi)) | (refine box_evA 7 #[.bool false, .string (⟨#[]⟩ : ByteArray), .string (⟨#[]⟩ : ByteArray)] 29 ?_; intro gb1068 hg w37 hbox hb; have n0_ := bB BK1063 hb; have n1_ := sB hb; have n2_ := Aside0.mk (hbox); have n3_ := wE w hg; have n4_ := wE w hg; have n5_ := Aside0.mk (nL BK1063 hg); have n6_ := Aside0.mk (nG BK1063 hg); revert n0_ n1_ n2_ n3_ n4_ n5_ n6_; clear BK1063 HB; intro BK1063 HB BK1068 GW1068 GE1068 NB1063_1068 NB1068_1063; clear hb hbox hg; have hnb38 := NB1068_1063.out; have hnc38 := NB1063_1068.out; have hcz39_0 := cB BK1068 0 (.bool false); have hcz39_1 := cB BK1068 1 (.string (⟨#[]⟩ : ByteArray)); have hcz39_2 := cB BK1068 2 (.string (⟨#[]⟩ : ByteArray)); have hfz39_0 := fB BK1068 0; have hfz39_1 := fB BK1068 1; have hfz39_2 := fB BK1068 2) | (refine goesLA 25 Tryd.func11 #[] ?_; (with_reducible refine (L6awake.calls k  false _ A7.out).mono ?_); rintro e w40 ⟨rfl, hb⟩; refine ⟨_, rfl, ?_⟩; have n0_ := Aside0.mk (blk_below (bC BK1063) hb); have n1_ := Aside0.mk (blk_below (bC BK1068) hb); have n2_ := sB hb; revert n0_ n1_ n2_; clear BK1063 BK1068 HB; intro BK1063 BK1068 HB; (try clear hb); (try clear hb2); (try clear hk); (try clear hi)))
   go_ret
   exact ⟨zE, zH⟩
 ·replace c4 := Bool.eq_false_iff.mpr c4
  subst c4
  have H1 : ((L6awake.f k).bind fun t1070 => (some t1070)) = some r := by rw [if_neg (show ¬ (false = true) by decide)] at H; exact H
  clear H
  have H := H1
  clear H1
  replace H := bS H
  obtain ⟨t1070, A41, H⟩ := H
  obtain rfl := Option.some.inj H
  go_enter Tryd.func7, Tryd.ntmps7
  go_wp2_with (first | (refine goesLA 10 Tryd.func10 #[.slice A0 l0.length c0] ?_; (with_reducible refine (L6few.calls k _ _ l0 false _ ?side1 ?side2 A3.out).mono ?_); (case side1 => exact sC HR0.out); (case side2 => exact HC0.out); rintro e w42 ⟨rfl, hb⟩; refine ⟨_, rfl, ?_⟩; have n0_ := sB hb; revert n0_; clear HB; intro HB; (try clear hb); (try clear hb2); (try clear hk); (try clear hi)) | (refine goesLA 12 Tryd.func11 #[] ?_; (with_reducible refine (L6awake.calls k  t1070 _ A41.out).mono ?_); rintro e w43 ⟨rfl, hb⟩; refine ⟨_, rfl, ?_⟩; have n0_ := sB hb; revert n0_; clear HB; intro HB; (try clear hb); (try clear hb2); (try clear hk); (try clear hi)))
  go_ret
  exact ⟨zE, zH⟩
end Go.Proofs.YtggfilmdfpmbmaaDoor.QN
end
