/-
  Steps and laws behind the statement that the claim's last text proves: the words of the walks, the walks of the Go functions (printed by a program of this session's own, then shortened by one), and what they compute. Conditions: stated at each theorem.
-/
import Derived.Test.YtggfilmdfpmbmaaDoorP1
import Derived.Test.YtggfilmdfpmbmaaDoorP9
import Derived.Test.YtggfilmdfpmbmaaDoorP5
import Derived.Test.YtggfilmdfpmbmaaDoorP4
import Derived.Test.YtggfilmdfpmbmaaDoorP0
section
namespace Go.Proofs.YtggfilmdfpmbmaaDoor.QN
open Go.RowKit Go.Proofs.YtggfilmdfpmbmaaDoorW.PrintWords Go.Proofs.YtggfilmdfpmbmaaDoorW.PrintLast Go.Proofs.YtggfilmdfpmbmaaDoorW.PrintMore
attribute [local go_sem] max2_int min2_int max_two min_two max_three min_three max_four min_four   -- for this text's walks alone
set_option linter.unusedVariables false
set_option linter.unusedSimpArgs false
attribute [local go_sem high] eqA29
mutual
def I1simple.l0 : Nat → List (S54) → Int → Int → Int → List (S54) → Int → Int → Bool → ByteArray → ByteArray → Option (Bool × ByteArray × ByteArray)
 | 0, _, _, _, _, _, _, _, _, _, _ => none
 | k + 1, x0, x1, x2, x3, x17, x18, x19, x790000, x790001, x790002 => if x19 < x18 then (if 0 ≤ x19 then (if x19 < (x17.length : Int) then (if (wrap64 (x19 + 1)) < (x0.length : Int) then (if 0 ≤ (wrap64 (x19 + 1)) then (I1simple.j1 k x0 x1 x2 x3 (mx x1 ((rd_T54 x17 x19).f0)) (mn x2 ((rd_T54 x0 (wrap64 (x19 + 1))).f0)) x17 x18 x19 x790000 x790001 x790002 ((rd_T54 x17 x19).f0) ((rd_T54 x17 x19).f1.f0) ((rd_T54 x17 x19).f1.f1) ((rd_T54 x17 x19).f1.f2)) else (none)) else (I1simple.j1 k x0 x1 x2 x3 (mx x1 ((rd_T54 x17 x19).f0)) x2 x17 x18 x19 x790000 x790001 x790002 ((rd_T54 x17 x19).f0) ((rd_T54 x17 x19).f1.f0) ((rd_T54 x17 x19).f1.f1) ((rd_T54 x17 x19).f1.f2))) else (none)) else (none)) else ((Q1Int.f k x3).bind fun bt790 => ((Q1Divide.f k x790000 x790001 x790002 bt790.1 bt790.2.1 bt790.2.2).bind fun bt793 => (some (bt793.1, bt793.2.1, bt793.2.2.1))))
def I1simple.j1 : Nat → List (S54) → Int → Int → Int → Int → Int → List (S54) → Int → Int → Bool → ByteArray → ByteArray → Int → Bool → ByteArray → ByteArray → Option (Bool × ByteArray × ByteArray)
 | 0, _, _, _, _, _, _, _, _, _, _, _, _, _, _, _, _ => none
 | k + 1, x0, x1, x2, x3, x12, x13, x17, x18, x19, x790000, x790001, x790002, x800000, x800001, x800002, x800003 => if x13 > x12 then ((Q1Int.f k (wrap64 (x13 - x12))).bind fun bt801 => ((Q1Multiply.f k x800001 x800002 x800003 bt801.1 bt801.2.1 bt801.2.2).bind fun bt804 => ((Q1Add.f k x790000 x790001 x790002 bt804.1 bt804.2.1 bt804.2.2).bind fun bt807 => (I1simple.l0 k x0 x1 x2 x3 x17 x18 (wrap64 (x19 + 1)) bt807.1 bt807.2.1 bt807.2.2)))) else (I1simple.l0 k x0 x1 x2 x3 x17 x18 (wrap64 (x19 + 1)) x790000 x790001 x790002)
end
def I1simple.f (k : Nat) (l0 : List (S54)) (a1 : Int) (a2 : Int) (a3 : Int) : Option (Bool × ByteArray × ByteArray) := I1simple.l0 k l0 a1 a2 a3 l0 (l0.length : Int) 0 false (⟨#[]⟩ : ByteArray) (⟨#[]⟩ : ByteArray)
def I1simple.T9 : Bool × List (List Nat × List Nat) := (true, [([], []), ([], []), ([1], [1]), ([], []), ([], []), ([3, 4], [3, 4]), ([5], [5]), ([2, 6, 6], [2, 6]), ([0, 7, 7], [0, 7]), ([8, 8, 0, 1, 2, 3, 4, 5, 6, 7, 8], [8])])
def I1simple.B9 : List Nat := [0, 0, 2, 0, 0, 24, 56, 126, 255, 511]
theorem I1simple.tab9 : rtab .any (opsOf Tryd.f34 9) = I1simple.T9 := by kernel_rfl
theorem I1simple.bits9 : waitsOk I1simple.T9.2 I1simple.B9 = true := by kernel_rfl
def I1simple.T11 : Bool × List (List Nat × List Nat) := (true, [([], []), ([], []), ([1], [1]), ([0, 2, 2], [0, 2]), ([3], [3]), ([4], [4]), ([4], [4]), ([], []), ([7, 5, 3, 0, 1, 2, 3, 4, 5, 7], [5, 7]), ([6, 8, 0, 1, 2, 3, 4, 5, 6, 7, 8], [6])])
def I1simple.B11 : List Nat := [0, 0, 2, 7, 15, 31, 31, 0, 191, 511]
theorem I1simple.tab11 : rtab .any (opsOf Tryd.f34 11) = I1simple.T11 := by kernel_rfl
theorem I1simple.bits11 : waitsOk I1simple.T11.2 I1simple.B11 = true := by kernel_rfl
set_option maxHeartbeats 8000000 in
set_option maxRecDepth 100000 in
theorem I1simple.calls (k : Nat) (A0 : Option Addr) (c0 : Nat) (l0 : List (S54)) (a1 : Int) (a2 : Int) (a3 : Int) (r1 : Bool) (r2 : ByteArray) (r3 : ByteArray) (w : World) (hr0 : Kd.C k54 w A0 l0.length l0) (hc0 : l0.length ≤ c0) (h : I1simple.f k l0 a1 a2 a3 = some (r1, r2, r3)) :
 Calls Tryd.prog 34 #[.slice A0 l0.length c0, .int .i64 a1, .int .i64 a2, .int .i64 a3] w fun e w' => e = .returned (.agg #[.bool r1, .string r2, .string r3]) ∧ Below w.heap.size w w' := by
 have hu29 := Tryd.underlying29
 have hu54 := Tryd.underlying54
 have HR0 := Aside0.mk hr0
 have HC0 := Aside0.mk hc0
 clear hr0 hc0
 have HB := Aside0.mk (Below.refl w.heap.size w)
 have H : (I1simple.l0 k l0 a1 a2 a3 l0 (l0.length : Int) 0 false (⟨#[]⟩ : ByteArray) (⟨#[]⟩ : ByteArray)) = some (r1, r2, r3) := h
 clear h
 have H' := Aside0.mk H
 clear H
 go_enter Tryd.func34, Tryd.ntmps34
 go_wp2_with (first | (refine box_evA 8 #[.bool false, .string (⟨#[]⟩ : ByteArray), .string (⟨#[]⟩ : ByteArray)] 29 ?_; intro gb788 hg w5 hbox hb; obtain ⟨n0_, n1_, n2_, n3_⟩ := bx4 w hbox hb hg; revert n0_ n1_ n2_ n3_; clear HB; intro HB BK788 GW788 GE788; clear hb hbox hg) | (refine box_evA 9 #[.bool false, .string (⟨#[]⟩ : ByteArray), .string (⟨#[]⟩ : ByteArray)] 29 ?_; intro gb789 hg w6 hbox hb; have n0_ := bB BK788 hb; have n1_ := sB hb; have n2_ := Aside0.mk (hbox); have n3_ := wE w hg; have n4_ := wE w hg; have n5_ := Aside0.mk (nL BK788 hg); have n6_ := Aside0.mk (nG BK788 hg); revert n0_ n1_ n2_ n3_ n4_ n5_ n6_; clear BK788 HB; intro BK788 HB BK789 GW789 GE789 NB788_789 NB789_788; clear hb hbox hg; have hnb7 := NB789_788.out; have hnc7 := NB788_789.out; have hcz8_0 := cB BK789 0 (.bool false); have hcz8_1 := cB BK789 1 (.string (⟨#[]⟩ : ByteArray)); have hcz8_2 := cB BK789 2 (.string (⟨#[]⟩ : ByteArray)); have hfz8_0 := fB BK789 0; have hfz8_1 := fB BK789 1; have hfz8_2 := fB BK789 2))
 go_loopg [19] k (fun kq v19 w' => ∃ (x19_1 : Int) (x790000_1 : Bool) (x790001_1 : ByteArray) (x790002_1 : ByteArray), v19 = .int .i64 x19_1 ∧ Aside0 (I1simple.l0 kq l0 a1 a2 a3 l0 (l0.length : Int) x19_1 x790000_1 x790001_1 x790002_1 = some (r1, r2, r3)) ∧ Aside0 (kq ≤ k) ∧ Aside0 (w'.heap[gb788]? = some (.cells #[.bool false, .string (⟨#[]⟩ : ByteArray), .string (⟨#[]⟩ : ByteArray)] 29 (0, 0))) ∧ Aside0 (w'.heap[gb789]? = some (.cells #[.bool x790000_1, .string x790001_1, .string x790002_1] 29 (0, 0))) ∧ Aside0 (Below w.heap.size w w'))
 case atStart => exact ⟨(0), (false), ((⟨#[]⟩ : ByteArray)), ((⟨#[]⟩ : ByteArray)), zq1, H', ⟨Nat.le_refl _⟩, ⟨bC BK788⟩, ⟨bC BK789⟩, ⟨zH⟩⟩
 case round =>
  clear H'
  obtain ⟨x19_1, x790000_1, x790001_1, x790002_1, rfl, HA, HK1, BK788, BK789, HB⟩ := hrel
  cases gk with
  | zero => exact absurd HA.out (by simp [I1simple.l0])
  | succ k1 =>
   have H := HA.out
   clear HA
   simp only [I1simple.l0] at H
   by_cases c9 : x19_1 < (l0.length : Int)
   ·rw [if_pos c9] at H
    have c9b0 := decide_eq_true c9
    clear c9
    replace H := iteD H
    obtain ⟨c10b0, H⟩ := H
    replace H := iteD H
    obtain ⟨c11b0, H⟩ := H
    obtain ⟨ji12, hji12⟩ : ∃ j_ : Int, (mx a1 ((rd_T54 l0 x19_1).f0)) = j_ := ⟨_, rfl⟩
    first | rw [hji12] at H | simp only [hji12] at H
    have hji12_ : (if a1 < ((rd_T54 l0 x19_1).f0) then ((rd_T54 l0 x19_1).f0) else a1) = ji12 := hji12
    have HC13 := Aside0.mk H
    clear H
    have p798 : 0 ≤ (x19_1 : Int) := of_decide_eq_true zq0
    have q798 : x19_1 < (l0.length : Int) := of_decide_eq_true zq0
    obtain ⟨ad798, e798, hx798_0, hx798_1, hx798_2, hx798_3⟩ := at_T54 HR0.out x19_1 p798 q798
    cases e798
    (try replace hx798_0 := (HB.out.cell (World.block_lt_of_cell? w _ hx798_0)).trans hx798_0)
    (try replace hx798_1 := (HB.out.cell (World.block_lt_of_cell? w _ hx798_1)).trans hx798_1)
    (try replace hx798_2 := (HB.out.cell (World.block_lt_of_cell? w _ hx798_2)).trans hx798_2)
    (try replace hx798_3 := (HB.out.cell (World.block_lt_of_cell? w _ hx798_3)).trans hx798_3)
    replace p798 := eq_true p798
    replace q798 := eq_true q798
    go_upto_if 33 with (first | (refine box_evA 11 #[.int .i64 0, .bool false, .string (⟨#[]⟩ : ByteArray), .string (⟨#[]⟩ : ByteArray)] 54 ?_; intro gb799 hg w14 hbox hb; have n0_ := bB BK788 hb; have n1_ := bB BK789 hb; have n2_ := sB hb; have n3_ := Aside0.mk (hbox); have n4_ := wE w hg; have n5_ := wE w hg; have n6_ := Aside0.mk (nL BK788 hg); have n7_ := Aside0.mk (nG BK788 hg); have n8_ := Aside0.mk (nL BK789 hg); have n9_ := Aside0.mk (nG BK789 hg); revert n0_ n1_ n2_ n3_ n4_ n5_ n6_ n7_ n8_ n9_; clear BK788 BK789 HB; intro BK788 BK789 HB BK799 GW799 GE799 NB788_799 NB799_788 NB789_799 NB799_789; clear hb hbox hg; have hnb15 := NB799_788.out; have hnc15 := NB788_799.out; have hnb16 := NB799_789.out; have hnc16 := NB789_799.out; have hcz17_0 := cB BK799 0 (.int .i64 0); have hcz17_1 := cB BK799 1 (.bool false); have hcz17_2 := cB BK799 2 (.string (⟨#[]⟩ : ByteArray)); have hcz17_3 := cB BK799 3 (.string (⟨#[]⟩ : ByteArray)); have hfz17_0 := fB BK799 0; have hfz17_1 := fB BK799 1; have hfz17_2 := fB BK799 2; have hfz17_3 := fB BK799 3))
    (try simp only [Act.put, List.setIfInBounds_toArray, List.set_cons_zero, List.set_cons_succ])
    go_cut [13] (fun v13 wc => ∃ (kq : Nat) (x13_12 : Int), v13 = .int .i64 x13_12 ∧ Aside0 (I1simple.j1 kq l0 a1 a2 a3 ji12 x13_12 l0 (l0.length : Int) x19_1 x790000_1 x790001_1 x790002_1 ((rd_T54 l0 x19_1).f0) ((rd_T54 l0 x19_1).f1.f0) ((rd_T54 l0 x19_1).f1.f1) ((rd_T54 l0 x19_1).f1.f2) = some (r1, r2, r3)) ∧ Aside0 (kq ≤ k1) ∧ Aside0 (wc.heap[gb788]? = some (.cells #[.bool false, .string (⟨#[]⟩ : ByteArray), .string (⟨#[]⟩ : ByteArray)] 29 (0, 0))) ∧ Aside0 (wc.heap[gb789]? = some (.cells #[.bool x790000_1, .string x790001_1, .string x790002_1] 29 (0, 0))) ∧ Aside0 (wc.heap[gb799]? = some (.cells #[.int .i64 ((rd_T54 l0 x19_1).f0), .bool ((rd_T54 l0 x19_1).f1.f0), .string ((rd_T54 l0 x19_1).f1.f1), .string ((rd_T54 l0 x19_1).f1.f2)] 54 (0, 0))) ∧ Aside0 (Below w.heap.size w wc))
    case first =>
     have H := HC13.out
     clear HC13
     by_cases c18 : (wrap64 (x19_1 + 1)) < (l0.length : Int)
     ·rw [if_pos c18] at H
      have c18b0 := decide_eq_true c18
      clear c18
      (first | rw [c18b0] | (simp only [i64_w, i32_w]; rw [c18b0]) | rw [c18b1] | skip)
      obtain ⟨ji19, hji19, hji19w⟩ := jI (x19_1 + 1)
      first | rw [hji19] at H | simp only [hji19] at H
      (try rw [hji19] at c18b0)
      replace H := iteD H
      obtain ⟨c20b0, H⟩ := H
      obtain ⟨ji21, hji21⟩ : ∃ j_ : Int, (mn a2 ((rd_T54 l0 (ji19)).f0)) = j_ := ⟨_, rfl⟩
      first | rw [hji21] at H | simp only [hji21] at H
      have hji21_ : (if ((rd_T54 l0 (ji19)).f0) < a2 then ((rd_T54 l0 (ji19)).f0) else a2) = ji21 := hji21
      have H' := Aside0.mk H
      clear H
      have p800 : 0 ≤ ((ji19) : Int) := of_decide_eq_true zq0
      have q800 : (ji19) < (l0.length : Int) := of_decide_eq_true zq0
      obtain ⟨ad800, e800, hx800_0, hx800_1, hx800_2, hx800_3⟩ := at_T54 HR0.out (ji19) p800 q800
      obtain rfl : ad798 = ad800 := (by injection e800)
      have hn800_0 : ad798.block ≠ gb799 := Nat.ne_of_lt (Nat.lt_of_lt_of_le (by have := World.block_lt_of_cell? _ _ hx800_0; first | rwa [add_block] at this | exact this) GW799.out)
      have hn800_1 : ad798.block ≠ gb799 := Nat.ne_of_lt (Nat.lt_of_lt_of_le (by have := World.block_lt_of_cell? _ _ hx800_0; first | rwa [add_block] at this | exact this) GW799.out)
      have hn800_2 : ad798.block ≠ gb799 := Nat.ne_of_lt (Nat.lt_of_lt_of_le (by have := World.block_lt_of_cell? _ _ hx800_0; first | rwa [add_block] at this | exact this) GW799.out)
      have hn800_3 : ad798.block ≠ gb799 := Nat.ne_of_lt (Nat.lt_of_lt_of_le (by have := World.block_lt_of_cell? _ _ hx800_0; first | rwa [add_block] at this | exact this) GW799.out)
      (try replace hx800_0 := (HB.out.cell (World.block_lt_of_cell? w _ hx800_0)).trans hx800_0)
      (try replace hx800_1 := (HB.out.cell (World.block_lt_of_cell? w _ hx800_1)).trans hx800_1)
      (try replace hx800_2 := (HB.out.cell (World.block_lt_of_cell? w _ hx800_2)).trans hx800_2)
      (try replace hx800_3 := (HB.out.cell (World.block_lt_of_cell? w _ hx800_3)).trans hx800_3)
      replace hx800_0 := (cell_far (p := ⟨gb799, 0, none⟩) zq35 (.int .i64 ((rd_T54 l0 x19_1).f0))).trans hx800_0
      replace hx800_1 := (cell_far (p := ⟨gb799, 0, none⟩) zq35 (.int .i64 ((rd_T54 l0 x19_1).f0))).trans hx800_1
      replace hx800_2 := (cell_far (p := ⟨gb799, 0, none⟩) zq35 (.int .i64 ((rd_T54 l0 x19_1).f0))).trans hx800_2
      replace hx800_3 := (cell_far (p := ⟨gb799, 0, none⟩) zq35 (.int .i64 ((rd_T54 l0 x19_1).f0))).trans hx800_3
      replace hx800_0 := (cell_far (p := ⟨gb799, 1, none⟩) zq36 (.bool ((rd_T54 l0 x19_1).f1.f0))).trans hx800_0
      replace hx800_1 := (cell_far (p := ⟨gb799, 1, none⟩) zq36 (.bool ((rd_T54 l0 x19_1).f1.f0))).trans hx800_1
      replace hx800_2 := (cell_far (p := ⟨gb799, 1, none⟩) zq36 (.bool ((rd_T54 l0 x19_1).f1.f0))).trans hx800_2
      replace hx800_3 := (cell_far (p := ⟨gb799, 1, none⟩) zq36 (.bool ((rd_T54 l0 x19_1).f1.f0))).trans hx800_3
      replace hx800_0 := (cell_far (p := ⟨gb799, 2, none⟩) zq37 (.string ((rd_T54 l0 x19_1).f1.f1))).trans hx800_0
      replace hx800_1 := (cell_far (p := ⟨gb799, 2, none⟩) zq37 (.string ((rd_T54 l0 x19_1).f1.f1))).trans hx800_1
      replace hx800_2 := (cell_far (p := ⟨gb799, 2, none⟩) zq37 (.string ((rd_T54 l0 x19_1).f1.f1))).trans hx800_2
      replace hx800_3 := (cell_far (p := ⟨gb799, 2, none⟩) zq37 (.string ((rd_T54 l0 x19_1).f1.f1))).trans hx800_3
      replace hx800_0 := (cell_far (p := ⟨gb799, 3, none⟩) zq38 (.string ((rd_T54 l0 x19_1).f1.f2))).trans hx800_0
      replace hx800_1 := (cell_far (p := ⟨gb799, 3, none⟩) zq38 (.string ((rd_T54 l0 x19_1).f1.f2))).trans hx800_1
      replace hx800_2 := (cell_far (p := ⟨gb799, 3, none⟩) zq38 (.string ((rd_T54 l0 x19_1).f1.f2))).trans hx800_2
      replace hx800_3 := (cell_far (p := ⟨gb799, 3, none⟩) zq38 (.string ((rd_T54 l0 x19_1).f1.f2))).trans hx800_3
      clear hn800_0 hn800_1 hn800_2 hn800_3
      replace p800 := eq_true p800
      replace q800 := eq_true q800
      go_wp2
      go_meet
      case rel => exact ⟨_, (ji21), (by first | rfl | (simp; done) | (simp only [← hji21] <;> (first | rfl | simp)) | (simp [*]; done)), H', ⟨by have := HK1.out; first | omega | exact Nat.le_refl _⟩, ⟨bC BK788⟩, ⟨bC BK789⟩, ⟨bC BK799⟩, ⟨zH⟩⟩
     ·rw [if_neg c18] at H
      have c18b0 := decide_eq_false c18
      clear c18
      (first | rw [c18b0] | (simp only [i64_w, i32_w]; rw [c18b0]) | rw [c18b1] | skip)
      have H' := Aside0.mk H
      clear H
      go_wp2
      go_meet
      case rel => exact ⟨_, (a2), zq1, H', ⟨by have := HK1.out; first | omega | exact Nat.le_refl _⟩, ⟨bC BK788⟩, ⟨bC BK789⟩, ⟨bC BK799⟩, ⟨zH⟩⟩
    case rest =>
     clear HC13
     obtain ⟨kq, x13_12, rfl, HA, HJ12, BK788, BK789, BK799, HB⟩ := hcut
     cases kq with
     | zero => exact absurd HA.out (by simp [I1simple.j1])
     | succ kj12 =>
      have H := HA.out
      clear HA
      simp only [I1simple.j1] at H
      by_cases c22 : x13_12 > ji12
      ·rw [if_pos c22] at H
       have c22b0 := decide_eq_true c22
       clear c22
       replace H := bS H
       obtain ⟨⟨t801, t802, t803⟩, A23, H⟩ := H
       (try dsimp only at H)
       replace H := bS H
       obtain ⟨⟨t804, t805, t806⟩, A24, H⟩ := H
       (try dsimp only at H)
       replace H := bS H
       obtain ⟨⟨t807, t808, t809⟩, A25, H⟩ := H
       (try dsimp only at H)
       have H' := Aside0.mk H
       clear H
       try go_wp2
       have n0_ := Aside0.mk (blk_drew BK788.out)
       have n1_ := Aside0.mk (blk_drew BK789.out)
       have n2_ := Aside0.mk (blk_drew BK799.out)
       have n3_ := Aside0.mk (below_drew1 HB.out)
       revert n0_ n1_ n2_ n3_
       clear BK788 BK789 BK799 HB
       intro BK788 BK789 BK799 HB
       refine start_ (n := 10) (S := fun w' => w'.cell? ⟨gb789, 0, none⟩ = some (.bool x790000_1) ∧ w'.cell? ⟨gb789, 1, none⟩ = some (.string x790001_1) ∧ w'.cell? ⟨gb789, 2, none⟩ = some (.string x790002_1) ∧ w'.cell? ⟨gb799, 0, none⟩ = some (.int .i64 ((rd_T54 l0 x19_1).f0)) ∧ w'.cell? ⟨gb799, 1, none⟩ = some (.bool ((rd_T54 l0 x19_1).f1.f0)) ∧ w'.cell? ⟨gb799, 2, none⟩ = some (.string ((rd_T54 l0 x19_1).f1.f1)) ∧ w'.cell? ⟨gb799, 3, none⟩ = some (.string ((rd_T54 l0 x19_1).f1.f2))) (ds := [9]) #[false, false, false, false, false, false, false, false, false, false] (by kernel_rfl) rfl rfl ⟨cA BK789 0, cA BK789 1, cA BK789 2, cA BK799 0, cA BK799 1, cA BK799 2, cA BK799 3⟩ (fun hHeld => ?_); refine with_tabW I1simple.tab9 I1simple.bits9 (fun HT_ HW_ => ?_)
       generalize wc.drew = w26 at BK788 BK789 BK799 HB hHeld ⊢
       refine pureA 1 46 (lB 10 2) rfl rfl ?_
       refine pureA 3 48 (lB 10 10) rfl rfl ?_
       refine pureA 4 49 (lB 10 26) rfl rfl ?_
       refine pureA 5 50 (lB 10 58) rfl rfl ?_
       refine takeA 0 45 (lB 10 59) rfl rfl hHeld ?_
       refine takeA 2 47 (lB 10 63) rfl rfl hHeld ?_
       refine oneA 6 51 (lB 10 127) rfl rfl (fun K hK => ?_)
       refine goes_ Tryd.func24 (by kernel_rfl) rfl #[.int .i64 (wrap64 (x13_12 - ji12))] (by rfl) rfl rfl (by (try simp only [List.map_toArray, List.map_cons, List.map_nil]); first | done | (simp only [hji12]; rfl) | rfl | (simp only [List.length_drop, List.length_take]; rfl)) ?_
       with_reducible refine (Q1Int.calls kj12 (wrap64 (x13_12 - ji12)) t801 t802 t803 _ A23.out).mono ?_
       rintro e w27 ⟨rfl, hb⟩
       refine ⟨_, rfl, ?_⟩
       have n0_ := bB BK788 hb
       have n1_ := bB BK789 hb
       have n2_ := bB BK799 hb
       have n3_ := sB hb
       revert n0_ n1_ n2_ n3_
       clear BK788 BK789 BK799 HB
       intro BK788 BK789 BK799 HB
       (try clear hb); (try clear hb2); (try clear hk); (try clear hi)
       refine hK.out _ _ ⟨cA BK789 0, cA BK789 1, cA BK789 2, cA BK799 0, cA BK799 1, cA BK799 2, cA BK799 3⟩ (fun hHeld => ?_)
       clear hK K
       refine normA (N := 51) ?_
       refine oneA 7 52 (lB 10 255) rfl rfl (fun K hK => ?_)
       refine goes_ Tryd.func19 (by kernel_rfl) rfl #[.agg #[.bool ((rd_T54 l0 x19_1).f1.f0), .string ((rd_T54 l0 x19_1).f1.f1), .string ((rd_T54 l0 x19_1).f1.f2)], .agg #[.bool t801, .string t802, .string t803]] (by rfl) rfl rfl zq2 ?_
       with_reducible refine (Q1Multiply.calls kj12 ((rd_T54 l0 x19_1).f1.f0) ((rd_T54 l0 x19_1).f1.f1) ((rd_T54 l0 x19_1).f1.f2) t801 t802 t803 t804 t805 t806 _ A24.out).mono ?_
       rintro e w28 ⟨rfl, hb⟩
       refine ⟨_, rfl, ?_⟩
       have n0_ := bB BK788 hb
       have n1_ := bB BK789 hb
       have n2_ := bB BK799 hb
       have n3_ := sB hb
       revert n0_ n1_ n2_ n3_
       clear BK788 BK789 BK799 HB
       intro BK788 BK789 BK799 HB
       (try clear hb); (try clear hb2); (try clear hk); (try clear hi)
       refine hK.out _ _ ⟨cA BK789 0, cA BK789 1, cA BK789 2, cA BK799 0, cA BK799 1, cA BK799 2, cA BK799 3⟩ (fun hHeld => ?_)
       clear hK K
       refine normA (N := 52) ?_
       refine oneA 8 53 (lB 10 511) rfl rfl (fun K hK => ?_)
       refine goes_ Tryd.func20 (by kernel_rfl) rfl #[.agg #[.bool x790000_1, .string x790001_1, .string x790002_1], .agg #[.bool t804, .string t805, .string t806]] (by rfl) rfl rfl zq2 ?_
       with_reducible refine (Q1Add.calls kj12 x790000_1 x790001_1 x790002_1 t804 t805 t806 t807 t808 t809 _ A25.out).mono ?_
       rintro e w29 ⟨rfl, hb⟩
       refine ⟨_, rfl, ?_⟩
       have n0_ := bB BK788 hb
       have n1_ := bB BK789 hb
       have n2_ := bB BK799 hb
       have n3_ := sB hb
       revert n0_ n1_ n2_ n3_
       clear BK788 BK789 BK799 HB
       intro BK788 BK789 BK799 HB
       (try clear hb); (try clear hb2); (try clear hk); (try clear hi)
       refine hK.out _ _ ⟨cA BK789 0, cA BK789 1, cA BK789 2, cA BK799 0, cA BK799 1, cA BK799 2, cA BK799 3⟩ (fun hHeld => ?_)
       clear hK K
       refine normA (N := 53) ?_
       refine last_ (i := 9) (N := none) (lB 10 1023) rfl rfl (one_of HT_.out (by kernel_rfl)) (by decide) (fun K hK => ?_)
       have hs30 := cB BK789 0 (.bool x790000_1)
       have hfs30 := fB BK789 0
       have hns30_0 := NB788_789.out
       have hns30_2 := NB799_789.out
       have hms30_0 := NB789_788.out
       have hms30_2 := NB789_799.out
       have hs31 := cB BK789 1 (.string x790001_1)
       have hfs31 := fB BK789 1
       have hns31_0 := NB788_789.out
       have hns31_2 := NB799_789.out
       have hms31_0 := NB789_788.out
       have hms31_2 := NB789_799.out
       have hs32 := cB BK789 2 (.string x790002_1)
       have hfs32 := fB BK789 2
       have hns32_0 := NB788_789.out
       have hns32_2 := NB799_789.out
       have hms32_0 := NB789_788.out
       have hms32_2 := NB789_799.out
       refine skip_ (w1 := ?_) (by rfl) rfl ?_ ?_
       rotate_left
       ·go_simp
        rfl
       refine hK.out _ _ ?_
       clear hK K
       refine done_ (done_of HT_.out (by kernel_rfl)) ?_
       try go_wp2
       go_roundg kj12
       case measure => have := HK1.out; have := HJ12.out; omega
       case rel => exact ⟨(wrap64 (x19_1 + 1)), (t807), (t808), (t809), zq1, H', ⟨by have := HK1.out; have := HJ12.out; omega⟩, ⟨bC BK788⟩, ⟨bC BK789⟩, ⟨zH⟩⟩
      ·rw [if_neg c22] at H
       have c22b0 := decide_eq_false c22
       clear c22
       have H' := Aside0.mk H
       clear H
       go_wp2
       go_roundg kj12
       case measure => have := HK1.out; have := HJ12.out; omega
       case rel => exact ⟨(wrap64 (x19_1 + 1)), (x790000_1), (x790001_1), (x790002_1), zq1, H', ⟨by have := HK1.out; have := HJ12.out; omega⟩, ⟨bC BK788⟩, ⟨bC BK789⟩, ⟨zH⟩⟩
   ·rw [if_neg c9] at H
    have c9b0 := decide_eq_false c9
    clear c9
    replace H := bS H
    obtain ⟨⟨t790, t791, t792⟩, A33, H⟩ := H
    (try dsimp only at H)
    replace H := bS H
    obtain ⟨⟨t793, t794, t795, t796⟩, A34, H⟩ := H
    (try dsimp only at H)
    simp only [Option.some.injEq, Prod.mk.injEq] at H
    obtain ⟨rfl, rfl, rfl⟩ := H
    try go_wp2
    have n0_ := Aside0.mk (blk_drew BK788.out)
    have n1_ := Aside0.mk (blk_drew BK789.out)
    have n2_ := Aside0.mk (below_drew1 HB.out)
    revert n0_ n1_ n2_
    clear BK788 BK789 HB
    intro BK788 BK789 HB
    refine start_ (n := 10) (S := fun w' => w'.cell? ⟨gb789, 0, none⟩ = some (.bool x790000_1) ∧ w'.cell? ⟨gb789, 1, none⟩ = some (.string x790001_1) ∧ w'.cell? ⟨gb789, 2, none⟩ = some (.string x790002_1)) (ds := []) #[false, false, false, false, false, false, false, false, false, false] (by kernel_rfl) rfl rfl ⟨cA BK789 0, cA BK789 1, cA BK789 2⟩ (fun hHeld => ?_); refine with_tabW I1simple.tab11 I1simple.bits11 (fun HT_ HW_ => ?_)
    generalize wr.drew = w35 at BK788 BK789 HB hHeld ⊢
    refine pureA 1 57 (lB 10 2) rfl rfl ?_
    refine takeA 0 56 (lB 10 3) rfl rfl hHeld ?_
    refine join_ (σ := Nat) 2 #[true, true, true, true, true, true, true, true, false, false] (fun s_ => [(58, .agg #[.bool t790, .string t791, .string t792]), (59, .tuple #[.agg #[.bool t793, .string t794, .string t795], .bool t796]), (14, .pointer (some ⟨s_, 0, none⟩)), (55, .tuple #[.agg #[.bool t793, .string t794, .string t795], .bool t796]), (60, .agg #[.bool t793, .string t794, .string t795]), (61, .bool t796)]) (fun s_ w' => (w'.cell? ⟨gb789, 0, none⟩ = some (.bool x790000_1) ∧ w'.cell? ⟨gb789, 1, none⟩ = some (.string x790001_1) ∧ w'.cell? ⟨gb789, 2, none⟩ = some (.string x790002_1)) ∧ (w'.heap[gb788]? = some (.cells #[.bool false, .string (⟨#[]⟩ : ByteArray), .string (⟨#[]⟩ : ByteArray)] 29 (0, 0))) ∧ (w'.heap[gb789]? = some (.cells #[.bool x790000_1, .string x790001_1, .string x790002_1] 29 (0, 0))) ∧ (w'.heap[s_]? = some (.cells #[.bool false, .string (⟨#[]⟩ : ByteArray), .string (⟨#[]⟩ : ByteArray)] 29 (0, 0))) ∧ (w.heap.size ≤ s_) ∧ (w.heap.size ≤ s_) ∧ (gb788 ≠ s_) ∧ (s_ ≠ gb788) ∧ (gb789 ≠ s_) ∧ (s_ ≠ gb789) ∧ (Below w.heap.size w w')) ?_ ?_
    rotate_left
    ·intro hCont
     refine two_ (i := 2) (j := 7) (Ni := some 58) (Nj := some 14) #[true, true, true, false, false, false, false, false, false, false] #[true, true, false, false, false, false, false, true, false, false] rfl rfl rfl rfl (two_of HT_.out (by kernel_rfl)) (by decide) (by decide) (fun K hK => ?_) (fun K hK => ?_)
     ·skip
      refine goes_ Tryd.func24 (by kernel_rfl) rfl #[.int .i64 a3] (by rfl) rfl rfl zq2 ?_
      with_reducible refine (Q1Int.calls k1 a3 t790 t791 t792 _ A33.out).mono ?_
      rintro e w36 ⟨rfl, hb⟩
      refine ⟨_, rfl, ?_⟩
      have n0_ := bB BK788 hb
      have n1_ := bB BK789 hb
      have n2_ := sB hb
      revert n0_ n1_ n2_
      clear BK788 BK789 HB
      intro BK788 BK789 HB
      (try clear hb); (try clear hb2); (try clear hk); (try clear hi)
      refine hK.out _ _ ⟨cA BK789 0, cA BK789 1, cA BK789 2⟩ (fun hHeld => ?_)
      clear hK K
      refine normA (N := 58) ?_
      refine two_ (i := 3) (j := 7) (Ni := some 59) (Nj := some 14) #[true, true, true, true, false, false, false, false, false, false] #[true, true, true, false, false, false, false, true, false, false] rfl rfl rfl rfl (two_of HT_.out (by kernel_rfl)) (by decide) (by decide) (fun K hK => ?_) (fun K hK => ?_)
      ·skip
       refine goes_ Tryd.func25 (by kernel_rfl) rfl #[.agg #[.bool x790000_1, .string x790001_1, .string x790002_1], .agg #[.bool t790, .string t791, .string t792]] (by rfl) rfl rfl zq2 ?_
       with_reducible refine (Q1Divide.calls k1 x790000_1 x790001_1 x790002_1 t790 t791 t792 t793 t794 t795 t796 _ A34.out).mono ?_
       rintro e w37 ⟨rfl, hb⟩
       refine ⟨_, rfl, ?_⟩
       have n0_ := bB BK788 hb
       have n1_ := bB BK789 hb
       have n2_ := sB hb
       revert n0_ n1_ n2_
       clear BK788 BK789 HB
       intro BK788 BK789 HB
       (try clear hb); (try clear hb2); (try clear hk); (try clear hi)
       refine hK.out _ _ ⟨cA BK789 0, cA BK789 1, cA BK789 2⟩ (fun hHeld => ?_)
       clear hK K
       refine normA (N := 59) ?_
       refine pureA 4 55 (lB 10 31) rfl rfl ?_
       refine pureA 5 60 (lB 10 63) rfl rfl ?_
       refine pureA 6 61 (lB 10 127) rfl rfl ?_
       refine oneA 7 14 (lB 10 255) rfl rfl (fun K hK => ?_)
       refine box_step ?hg (N := 14) ?hd (cs := #[.bool false, .string (⟨#[]⟩ : ByteArray), .string (⟨#[]⟩ : ByteArray)]) (t := 29) ?hr ?_; (case hd => rfl); (case hg => rfl); (case hr => first | (go_simp; done) | (go_simp; rfl))
       intro gb797 hg w38 hbox hb
       have n0_ := bB BK788 hb
       have n1_ := bB BK789 hb
       have n2_ := sB hb
       have n3_ := Aside0.mk (hbox)
       have n4_ := wE w hg
       have n5_ := wE w hg
       have n6_ := Aside0.mk (nL BK788 hg)
       have n7_ := Aside0.mk (nG BK788 hg)
       have n8_ := Aside0.mk (nL BK789 hg)
       have n9_ := Aside0.mk (nG BK789 hg)
       clear BK788 BK789 HB
       have BK788 := n0_
       have BK789 := n1_
       have HB := n2_
       have BK797 := n3_
       have GW797 := n4_
       have GE797 := n5_
       have NB788_797 := n6_
       have NB797_788 := n7_
       have NB789_797 := n8_
       have NB797_789 := n9_
       clear n0_ n1_ n2_ n3_ n4_ n5_ n6_ n7_ n8_ n9_ hb hbox hg
       refine hK.out _ _ ⟨cA BK789 0, cA BK789 1, cA BK789 2⟩ (fun hHeld => ?_)
       clear hK K
       refine normA (N := 14) ?_
       exact norm_ (by simp only [putAll, Act.put, List.setIfInBounds_toArray, List.set_cons_zero, List.set_cons_succ]) (hCont (gb797) _ ⟨hHeld, (by (with_reducible repeat (first | refine blk_drewN ?_ _ | refine blk_drew ?_ | refine blk_alloc ?_ _)); exact BK788.out), (by (with_reducible repeat (first | refine blk_drewN ?_ _ | refine blk_drew ?_ | refine blk_alloc ?_ _)); exact BK789.out), (by (with_reducible repeat (first | refine blk_drewN ?_ _ | refine blk_drew ?_ | refine blk_alloc ?_ _)); exact BK797.out), GW797.out, GE797.out, NB788_797.out, NB797_788.out, NB789_797.out, NB797_789.out, zH⟩)
      ·skip
       refine box_step ?hg (N := 14) ?hd (cs := #[.bool false, .string (⟨#[]⟩ : ByteArray), .string (⟨#[]⟩ : ByteArray)]) (t := 29) ?hr ?_; (case hd => rfl); (case hg => rfl); (case hr => first | (go_simp; done) | (go_simp; rfl))
       intro gb797 hg w37 hbox hb
       have n0_ := bB BK788 hb
       have n1_ := bB BK789 hb
       have n2_ := sB hb
       have n3_ := Aside0.mk (hbox)
       have n4_ := wE w hg
       have n5_ := wE w hg
       have n6_ := Aside0.mk (nL BK788 hg)
       have n7_ := Aside0.mk (nG BK788 hg)
       have n8_ := Aside0.mk (nL BK789 hg)
       have n9_ := Aside0.mk (nG BK789 hg)
       clear BK788 BK789 HB
       have BK788 := n0_
       have BK789 := n1_
       have HB := n2_
       have BK797 := n3_
       have GW797 := n4_
       have GE797 := n5_
       have NB788_797 := n6_
       have NB797_788 := n7_
       have NB789_797 := n8_
       have NB797_789 := n9_
       clear n0_ n1_ n2_ n3_ n4_ n5_ n6_ n7_ n8_ n9_ hb hbox hg
       refine hK.out _ _ ⟨cA BK789 0, cA BK789 1, cA BK789 2⟩ (fun hHeld => ?_)
       clear hK K
       refine normA (N := 14) ?_
       refine oneA 3 59 (lB 10 143) rfl rfl (fun K hK => ?_)
       refine goes_ Tryd.func25 (by kernel_rfl) rfl #[.agg #[.bool x790000_1, .string x790001_1, .string x790002_1], .agg #[.bool t790, .string t791, .string t792]] (by rfl) rfl rfl zq2 ?_
       with_reducible refine (Q1Divide.calls k1 x790000_1 x790001_1 x790002_1 t790 t791 t792 t793 t794 t795 t796 _ A34.out).mono ?_
       rintro e w38 ⟨rfl, hb⟩
       refine ⟨_, rfl, ?_⟩
       have n0_ := bB BK788 hb
       have n1_ := bB BK789 hb
       have n2_ := bB BK797 hb
       have n3_ := sB hb
       revert n0_ n1_ n2_ n3_
       clear BK788 BK789 BK797 HB
       intro BK788 BK789 BK797 HB
       (try clear hb); (try clear hb2); (try clear hk); (try clear hi)
       refine hK.out _ _ ⟨cA BK789 0, cA BK789 1, cA BK789 2⟩ (fun hHeld => ?_)
       clear hK K
       refine normA (N := 59) ?_
       refine pureA 4 55 (lB 10 159) rfl rfl ?_
       refine pureA 5 60 (lB 10 191) rfl rfl ?_
       refine pureA 6 61 (lB 10 255) rfl rfl ?_
       exact norm_ (by simp only [putAll, Act.put, List.setIfInBounds_toArray, List.set_cons_zero, List.set_cons_succ]) (hCont (gb797) _ ⟨hHeld, (by (with_reducible repeat (first | refine blk_drewN ?_ _ | refine blk_drew ?_ | refine blk_alloc ?_ _)); exact BK788.out), (by (with_reducible repeat (first | refine blk_drewN ?_ _ | refine blk_drew ?_ | refine blk_alloc ?_ _)); exact BK789.out), (by (with_reducible repeat (first | refine blk_drewN ?_ _ | refine blk_drew ?_ | refine blk_alloc ?_ _)); exact BK797.out), GW797.out, GE797.out, NB788_797.out, NB797_788.out, NB789_797.out, NB797_789.out, zH⟩)
     ·skip
      refine box_step ?hg (N := 14) ?hd (cs := #[.bool false, .string (⟨#[]⟩ : ByteArray), .string (⟨#[]⟩ : ByteArray)]) (t := 29) ?hr ?_; (case hd => rfl); (case hg => rfl); (case hr => first | (go_simp; done) | (go_simp; rfl))
      intro gb797 hg w36 hbox hb
      have n0_ := bB BK788 hb
      have n1_ := bB BK789 hb
      have n2_ := sB hb
      have n3_ := Aside0.mk (hbox)
      have n4_ := wE w hg
      have n5_ := wE w hg
      have n6_ := Aside0.mk (nL BK788 hg)
      have n7_ := Aside0.mk (nG BK788 hg)
      have n8_ := Aside0.mk (nL BK789 hg)
      have n9_ := Aside0.mk (nG BK789 hg)
      clear BK788 BK789 HB
      have BK788 := n0_
      have BK789 := n1_
      have HB := n2_
      have BK797 := n3_
      have GW797 := n4_
      have GE797 := n5_
      have NB788_797 := n6_
      have NB797_788 := n7_
      have NB789_797 := n8_
      have NB797_789 := n9_
      clear n0_ n1_ n2_ n3_ n4_ n5_ n6_ n7_ n8_ n9_ hb hbox hg
      refine hK.out _ _ ⟨cA BK789 0, cA BK789 1, cA BK789 2⟩ (fun hHeld => ?_)
      clear hK K
      refine normA (N := 14) ?_
      refine oneA 2 58 (lB 10 135) rfl rfl (fun K hK => ?_)
      refine goes_ Tryd.func24 (by kernel_rfl) rfl #[.int .i64 a3] (by rfl) rfl rfl zq2 ?_
      with_reducible refine (Q1Int.calls k1 a3 t790 t791 t792 _ A33.out).mono ?_
      rintro e w37 ⟨rfl, hb⟩
      refine ⟨_, rfl, ?_⟩
      have n0_ := bB BK788 hb
      have n1_ := bB BK789 hb
      have n2_ := bB BK797 hb
      have n3_ := sB hb
      revert n0_ n1_ n2_ n3_
      clear BK788 BK789 BK797 HB
      intro BK788 BK789 BK797 HB
      (try clear hb); (try clear hb2); (try clear hk); (try clear hi)
      refine hK.out _ _ ⟨cA BK789 0, cA BK789 1, cA BK789 2⟩ (fun hHeld => ?_)
      clear hK K
      refine normA (N := 58) ?_
      refine oneA 3 59 (lB 10 143) rfl rfl (fun K hK => ?_)
      refine goes_ Tryd.func25 (by kernel_rfl) rfl #[.agg #[.bool x790000_1, .string x790001_1, .string x790002_1], .agg #[.bool t790, .string t791, .string t792]] (by rfl) rfl rfl zq2 ?_
      with_reducible refine (Q1Divide.calls k1 x790000_1 x790001_1 x790002_1 t790 t791 t792 t793 t794 t795 t796 _ A34.out).mono ?_
      rintro e w38 ⟨rfl, hb⟩
      refine ⟨_, rfl, ?_⟩
      have n0_ := bB BK788 hb
      have n1_ := bB BK789 hb
      have n2_ := bB BK797 hb
      have n3_ := sB hb
      revert n0_ n1_ n2_ n3_
      clear BK788 BK789 BK797 HB
      intro BK788 BK789 BK797 HB
      (try clear hb); (try clear hb2); (try clear hk); (try clear hi)
      refine hK.out _ _ ⟨cA BK789 0, cA BK789 1, cA BK789 2⟩ (fun hHeld => ?_)
      clear hK K
      refine normA (N := 59) ?_
      refine pureA 4 55 (lB 10 159) rfl rfl ?_
      refine pureA 5 60 (lB 10 191) rfl rfl ?_
      refine pureA 6 61 (lB 10 255) rfl rfl ?_
      exact norm_ (by simp only [putAll, Act.put, List.setIfInBounds_toArray, List.set_cons_zero, List.set_cons_succ]) (hCont (gb797) _ ⟨hHeld, (by (with_reducible repeat (first | refine blk_drewN ?_ _ | refine blk_drew ?_ | refine blk_alloc ?_ _)); exact BK788.out), (by (with_reducible repeat (first | refine blk_drewN ?_ _ | refine blk_drew ?_ | refine blk_alloc ?_ _)); exact BK789.out), (by (with_reducible repeat (first | refine blk_drewN ?_ _ | refine blk_drew ?_ | refine blk_alloc ?_ _)); exact BK797.out), GW797.out, GE797.out, NB788_797.out, NB797_788.out, NB789_797.out, NB797_789.out, zH⟩)
    rintro gb797 w39 ⟨hS_, h0_, h1_, h2_, h3_, h4_, h5_, h6_, h7_, h8_, h9_⟩
    have n0_ : Aside0 (w39.heap[gb788]? = some (.cells #[.bool false, .string (⟨#[]⟩ : ByteArray), .string (⟨#[]⟩ : ByteArray)] 29 (0, 0))) := ⟨h0_⟩
    have n1_ : Aside0 (w39.heap[gb789]? = some (.cells #[.bool x790000_1, .string x790001_1, .string x790002_1] 29 (0, 0))) := ⟨h1_⟩
    have n2_ : Aside0 (w39.heap[gb797]? = some (.cells #[.bool false, .string (⟨#[]⟩ : ByteArray), .string (⟨#[]⟩ : ByteArray)] 29 (0, 0))) := ⟨h2_⟩
    have n3_ : Aside0 (w.heap.size ≤ gb797) := ⟨h3_⟩
    have n4_ : Aside0 (w.heap.size ≤ gb797) := ⟨h4_⟩
    have n5_ : Aside0 (gb788 ≠ gb797) := ⟨h5_⟩
    have n6_ : Aside0 (gb797 ≠ gb788) := ⟨h6_⟩
    have n7_ : Aside0 (gb789 ≠ gb797) := ⟨h7_⟩
    have n8_ : Aside0 (gb797 ≠ gb789) := ⟨h8_⟩
    have n9_ : Aside0 (Below w.heap.size w w39) := ⟨h9_⟩
    revert n0_ n1_ n2_ n3_ n4_ n5_ n6_ n7_ n8_ n9_
    clear BK788 BK789 HB h0_ h1_ h2_ h3_ h4_ h5_ h6_ h7_ h8_ h9_
    intro BK788 BK789 BK797 GW797 GE797 NB788_797 NB797_788 NB789_797 NB797_789 HB
    have hHeld : w39.cell? ⟨gb789, 0, none⟩ = some (.bool x790000_1) ∧ w39.cell? ⟨gb789, 1, none⟩ = some (.string x790001_1) ∧ w39.cell? ⟨gb789, 2, none⟩ = some (.string x790002_1) := hS_
    refine norm_ (a' := ?_) ?_ ?_
    rotate_left
    ·simp only [putAll, Act.put, List.setIfInBounds_toArray, List.set_cons_zero, List.set_cons_succ]
     rfl
    refine one_ (i := 8) (N := none) (lB 10 511) rfl rfl (one_of HT_.out (by kernel_rfl)) (by decide) (fun K hK => ?_)
    have hs40 := cB BK797 0 (.bool false)
    have hfs40 := fB BK797 0
    have hns40_0 := NB788_797.out
    have hns40_1 := NB789_797.out
    have hms40_0 := NB797_788.out
    have hms40_1 := NB797_789.out
    have hs41 := cB BK797 1 (.string (⟨#[]⟩ : ByteArray))
    have hfs41 := fB BK797 1
    have hns41_0 := NB788_797.out
    have hns41_1 := NB789_797.out
    have hms41_0 := NB797_788.out
    have hms41_1 := NB797_789.out
    have hs42 := cB BK797 2 (.string (⟨#[]⟩ : ByteArray))
    have hfs42 := fB BK797 2
    have hns42_0 := NB788_797.out
    have hns42_1 := NB789_797.out
    have hms42_0 := NB797_788.out
    have hms42_1 := NB797_789.out
    refine skip_ (w1 := ?_) (by rfl) rfl ?_ ?_
    rotate_left
    ·go_simp
     rfl
    refine hK.out _ _ ⟨((cell_far (p := ⟨gb797, _, none⟩) NB789_797.out _).trans (((cell_far (p := ⟨gb797, _, none⟩) NB789_797.out _).trans (((cell_far (p := ⟨gb797, _, none⟩) NB789_797.out _).trans (hHeld.1)))))), ((cell_far (p := ⟨gb797, _, none⟩) NB789_797.out _).trans (((cell_far (p := ⟨gb797, _, none⟩) NB789_797.out _).trans (((cell_far (p := ⟨gb797, _, none⟩) NB789_797.out _).trans (hHeld.2.1)))))), ((cell_far (p := ⟨gb797, _, none⟩) NB789_797.out _).trans (((cell_far (p := ⟨gb797, _, none⟩) NB789_797.out _).trans (((cell_far (p := ⟨gb797, _, none⟩) NB789_797.out _).trans (hHeld.2.2))))))⟩ (fun hHeld => ?_)
    clear hK K
    refine pureA 9 15 (lB 10 1023) rfl rfl ?_
    refine done_ (done_of HT_.out (by kernel_rfl)) ?_
    have hnb43 := NB797_788.out
    have hnc43 := NB788_797.out
    have hnb44 := NB797_789.out
    have hnc44 := NB789_797.out
    have hcz45_0 := cB BK797 0 (.bool false)
    have hcz45_1 := cB BK797 1 (.string (⟨#[]⟩ : ByteArray))
    have hcz45_2 := cB BK797 2 (.string (⟨#[]⟩ : ByteArray))
    have hfz45_0 := fB BK797 0
    have hfz45_1 := fB BK797 1
    have hfz45_2 := fB BK797 2
    have hnb46 := NB788_789.out
    have hnc46 := NB789_788.out
    have hcz47_0 := cB BK788 0 (.bool false)
    have hcz47_1 := cB BK788 1 (.string (⟨#[]⟩ : ByteArray))
    have hcz47_2 := cB BK788 2 (.string (⟨#[]⟩ : ByteArray))
    have hfz47_0 := fB BK788 0
    have hfz47_1 := fB BK788 1
    have hfz47_2 := fB BK788 2
    try go_wp2
    refine bodyPost_ret (results_cell_row rfl _ _ gb788 29 #[.bool t793, .string t794, .string t795] (0, 0) _ rfl (bC BK788) Tryd.underlying29 rfl (by kernel_rfl)) rfl ?_
    exact ⟨zE, zH⟩
end Go.Proofs.YtggfilmdfpmbmaaDoor.QN
end
section
namespace Go.Proofs.YtggfilmdfpmbmaaDoor.QN
open Go.RowKit Go.Proofs.YtggfilmdfpmbmaaDoorW.PrintWords Go.Proofs.YtggfilmdfpmbmaaDoorW.PrintLast Go.Proofs.YtggfilmdfpmbmaaDoorW.PrintMore
attribute [local go_sem] max2_int min2_int max_two min_two max_three min_three max_four min_four   -- for this text's walks alone
set_option linter.unusedVariables false
set_option linter.unusedSimpArgs false
attribute [local go_sem high] eqA29
def I1Simple.f (k : Nat) (a0_0 : Bool) (a0_1 : ByteArray) (a0_2 : ByteArray) (l1 : List (S54)) (a2 : Int) (a3 : Int) (a4 : Int) : Option (Bool × ByteArray × ByteArray × Int) := (I1check.f k a0_0 a0_1 a0_2 l1 a2 a3 a4 1).bind fun t812 => (if t812 = 0 then ((I1simple.f k l1 a2 a3 a4).bind fun bt813 => ((Q1Multiply.f k a0_0 a0_1 a0_2 bt813.1 bt813.2.1 bt813.2.2).bind fun bt816 => (some (bt816.1, bt816.2.1, bt816.2.2, 0)))) else (some (false, (⟨#[]⟩ : ByteArray), (⟨#[]⟩ : ByteArray), t812)))
def I1Simple.T4 : Bool × List (List Nat × List Nat) := (true, [([], []), ([], []), ([], []), ([], []), ([], []), ([1, 2, 3, 4], [1, 2, 3, 4]), ([0, 5, 5], [0, 5]), ([6, 6, 0, 1, 2, 3, 4, 5, 6], [6]), ([7, 0, 1, 2, 3, 4, 5, 6, 7], [])])
def I1Simple.B4 : List Nat := [0, 0, 0, 0, 0, 30, 63, 127, 255]
theorem I1Simple.tab4 : rtab .any (opsOf Tryd.f15 4) = I1Simple.T4 := by kernel_rfl
theorem I1Simple.bits4 : waitsOk I1Simple.T4.2 I1Simple.B4 = true := by kernel_rfl
set_option maxHeartbeats 8000000 in
set_option maxRecDepth 100000 in
theorem I1Simple.calls (k : Nat) (a0_0 : Bool) (a0_1 : ByteArray) (a0_2 : ByteArray) (A1 : Option Addr) (c1 : Nat) (l1 : List (S54)) (a2 : Int) (a3 : Int) (a4 : Int) (r1 : Bool) (r2 : ByteArray) (r3 : ByteArray) (r4 : Int) (w : World) (hr1 : Kd.C k54 w A1 l1.length l1) (hc1 : l1.length ≤ c1) (h : I1Simple.f k a0_0 a0_1 a0_2 l1 a2 a3 a4 = some (r1, r2, r3, r4)) :
 Calls Tryd.prog 15 #[.agg #[.bool a0_0, .string a0_1, .string a0_2], .slice A1 l1.length c1, .int .i64 a2, .int .i64 a3, .int .i64 a4] w fun e w' => e = .returned (.tuple #[.agg #[.bool r1, .string r2, .string r3], .int .i64 r4]) ∧ Below w.heap.size w w' := by
 have hu29 := Tryd.underlying29
 have HR1 := Aside0.mk hr1
 have HC1 := Aside0.mk hc1
 clear hr1 hc1
 have HB := Aside0.mk (Below.refl w.heap.size w)
 have H : ((I1check.f k a0_0 a0_1 a0_2 l1 a2 a3 a4 1).bind fun t812 => (if t812 = 0 then ((I1simple.f k l1 a2 a3 a4).bind fun bt813 => ((Q1Multiply.f k a0_0 a0_1 a0_2 bt813.1 bt813.2.1 bt813.2.2).bind fun bt816 => (some (bt816.1, bt816.2.1, bt816.2.2, 0)))) else (some (false, (⟨#[]⟩ : ByteArray), (⟨#[]⟩ : ByteArray), t812)))) = some (r1, r2, r3, r4) := h
 clear h
 replace H := bS H
 obtain ⟨t812, A6, H⟩ := H
 by_cases c7 : t812 = 0
 ·rw [if_pos c7] at H
  have c7b0 := beq_iff_eq.mpr c7
  have c7b1 : (t812 != 0) = false := bne_eq_false_iff_eq.mpr c7
  clear c7
  replace H := bS H
  obtain ⟨⟨t813, t814, t815⟩, A8, H⟩ := H
  (try dsimp only at H)
  replace H := bS H
  obtain ⟨⟨t816, t817, t818⟩, A9, H⟩ := H
  (try dsimp only at H)
  simp only [Option.some.injEq, Prod.mk.injEq] at H
  obtain ⟨rfl, rfl, rfl, rfl⟩ := H
  go_enter Tryd.func15, Tryd.ntmps15
  try go_wp2_with (first | (refine box_evA 5 #[.bool a0_0, .string a0_1, .string a0_2] 29 ?_; intro gb810 hg w10 hbox hb; obtain ⟨n0_, n1_, n2_, n3_⟩ := bx4 w hbox hb hg; revert n0_ n1_ n2_ n3_; clear HB; intro HB BK810 GW810 GE810; clear hb hbox hg) | (refine box_evA 10 #[.bool false, .string (⟨#[]⟩ : ByteArray), .string (⟨#[]⟩ : ByteArray)] 29 ?_; intro gb811 hg w11 hbox hb; have n0_ := bB BK810 hb; have n1_ := sB hb; have n2_ := Aside0.mk (hbox); have n3_ := wE w hg; have n4_ := wE w hg; have n5_ := Aside0.mk (nL BK810 hg); have n6_ := Aside0.mk (nG BK810 hg); revert n0_ n1_ n2_ n3_ n4_ n5_ n6_; clear BK810 HB; intro BK810 HB BK811 GW811 GE811 NB810_811 NB811_810; clear hb hbox hg; have hnb12 := NB810_811.out; have hnc12 := NB811_810.out; have hcz13_0 := cB BK810 0 (.bool a0_0); have hcz13_1 := cB BK810 1 (.string a0_1); have hcz13_2 := cB BK810 2 (.string a0_2); have hfz13_0 := fB BK810 0; have hfz13_1 := fB BK810 1; have hfz13_2 := fB BK810 2) | (refine goesLA 18 Tryd.func33 #[.agg #[.bool a0_0, .string a0_1, .string a0_2], .slice A1 l1.length c1, .int .i64 a2, .int .i64 a3, .int .i64 a4, .int .i64 1] ?_; (with_reducible refine (I1check.calls k a0_0 a0_1 a0_2 _ _ l1 a2 a3 a4 1 t812 _ ?side1 ?side2 A6.out).mono ?_); (case side1 => exact sC (Kd.C_below HR1.out HB.out)); (case side2 => exact HC1.out); rintro e w14 ⟨rfl, hb⟩; refine ⟨_, rfl, ?_⟩; have n0_ := bB BK810 hb; have n1_ := bB BK811 hb; have n2_ := sB hb; revert n0_ n1_ n2_; clear BK810 BK811 HB; intro BK810 BK811 HB; (try clear hb); (try clear hb2); (try clear hk); (try clear hi)))
  have n0_ := Aside0.mk (blk_drew BK810.out)
  have n1_ := Aside0.mk (blk_drew BK811.out)
  have n2_ := Aside0.mk (below_drew1 HB.out)
  revert n0_ n1_ n2_
  clear BK810 BK811 HB
  intro BK810 BK811 HB
  refine start_ (n := 9) (S := fun w' => w'.cell? ⟨gb810, 0, none⟩ = some (.bool a0_0) ∧ w'.cell? ⟨gb810, 1, none⟩ = some (.string a0_1) ∧ w'.cell? ⟨gb810, 2, none⟩ = some (.string a0_2)) (ds := []) #[false, false, false, false, false, false, false, false, false] (by kernel_rfl) rfl rfl ⟨cA BK810 0, cA BK810 1, cA BK810 2⟩ (fun hHeld => ?_); refine with_tabW I1Simple.tab4 I1Simple.bits4 (fun HT_ HW_ => ?_)
  generalize w14.drew = w15 at BK810 BK811 HB hHeld ⊢
  refine pureA 1 24 (lB 9 2) rfl rfl ?_
  refine pureA 2 25 (lB 9 6) rfl rfl ?_
  refine pureA 3 26 (lB 9 14) rfl rfl ?_
  refine pureA 4 27 (lB 9 30) rfl rfl ?_
  refine takeA 0 23 (lB 9 31) rfl rfl hHeld ?_
  refine oneA 5 28 (lB 9 63) rfl rfl (fun K hK => ?_)
  refine goes_ Tryd.func34 (by kernel_rfl) rfl #[.slice A1 l1.length c1, .int .i64 a2, .int .i64 a3, .int .i64 a4] (by rfl) rfl rfl zq2 ?_
  with_reducible refine (I1simple.calls k _ _ l1 a2 a3 a4 t813 t814 t815 _ ?side1 ?side2 A8.out).mono ?_
  (case side1 => exact sC (Kd.C_below HR1.out HB.out))
  (case side2 => exact HC1.out)
  rintro e w16 ⟨rfl, hb⟩
  refine ⟨_, rfl, ?_⟩
  have n0_ := bB BK810 hb
  have n1_ := bB BK811 hb
  have n2_ := sB hb
  revert n0_ n1_ n2_
  clear BK810 BK811 HB
  intro BK810 BK811 HB
  (try clear hb); (try clear hb2); (try clear hk); (try clear hi)
  refine hK.out _ _ ⟨cA BK810 0, cA BK810 1, cA BK810 2⟩ (fun hHeld => ?_)
  clear hK K
  refine normA (N := 28) ?_
  refine oneA 6 29 (lB 9 127) rfl rfl (fun K hK => ?_)
  refine goes_ Tryd.func19 (by kernel_rfl) rfl #[.agg #[.bool a0_0, .string a0_1, .string a0_2], .agg #[.bool t813, .string t814, .string t815]] (by rfl) rfl rfl zq2 ?_
  with_reducible refine (Q1Multiply.calls k a0_0 a0_1 a0_2 t813 t814 t815 t816 t817 t818 _ A9.out).mono ?_
  rintro e w17 ⟨rfl, hb⟩
  refine ⟨_, rfl, ?_⟩
  have n0_ := bB BK810 hb
  have n1_ := bB BK811 hb
  have n2_ := sB hb
  revert n0_ n1_ n2_
  clear BK810 BK811 HB
  intro BK810 BK811 HB
  (try clear hb); (try clear hb2); (try clear hk); (try clear hi)
  refine hK.out _ _ ⟨cA BK810 0, cA BK810 1, cA BK810 2⟩ (fun hHeld => ?_)
  clear hK K
  refine normA (N := 29) ?_
  refine one_ (i := 7) (N := none) (lB 9 255) rfl rfl (one_of HT_.out (by kernel_rfl)) (by decide) (fun K hK => ?_)
  have hs18 := cB BK811 0 (.bool false)
  have hfs18 := fB BK811 0
  have hns18_0 := NB810_811.out
  have hms18_0 := NB811_810.out
  have hs19 := cB BK811 1 (.string (⟨#[]⟩ : ByteArray))
  have hfs19 := fB BK811 1
  have hns19_0 := NB810_811.out
  have hms19_0 := NB811_810.out
  have hs20 := cB BK811 2 (.string (⟨#[]⟩ : ByteArray))
  have hfs20 := fB BK811 2
  have hns20_0 := NB810_811.out
  have hms20_0 := NB811_810.out
  refine skip_ (w1 := ?_) (by rfl) rfl ?_ ?_
  rotate_left
  ·go_simp
   rfl
  refine hK.out _ _ ⟨((cell_far (p := ⟨gb811, _, none⟩) NB810_811.out _).trans (((cell_far (p := ⟨gb811, _, none⟩) NB810_811.out _).trans (((cell_far (p := ⟨gb811, _, none⟩) NB810_811.out _).trans (hHeld.1)))))), ((cell_far (p := ⟨gb811, _, none⟩) NB810_811.out _).trans (((cell_far (p := ⟨gb811, _, none⟩) NB810_811.out _).trans (((cell_far (p := ⟨gb811, _, none⟩) NB810_811.out _).trans (hHeld.2.1)))))), ((cell_far (p := ⟨gb811, _, none⟩) NB810_811.out _).trans (((cell_far (p := ⟨gb811, _, none⟩) NB810_811.out _).trans (((cell_far (p := ⟨gb811, _, none⟩) NB810_811.out _).trans (hHeld.2.2))))))⟩ (fun hHeld => ?_)
  clear hK K
  refine pureA 8 11 (lB 9 511) rfl rfl ?_
  refine done_ (done_of HT_.out (by kernel_rfl)) ?_
  try go_wp2
  refine bodyPost_ret (results_ct rfl _ _ gb811 29 #[.bool t816, .string t817, .string t818] (0, 0) _ rfl (bC BK811) Tryd.underlying29 rfl (by kernel_rfl)) rfl ?_
  exact ⟨zE, zH⟩
 ·rw [if_neg c7] at H
  have c7b0 := beq_eq_false_iff_ne.mpr c7
  have c7b1 := bne_iff_ne.mpr c7
  simp only [Option.some.injEq, Prod.mk.injEq] at H
  obtain ⟨rfl, rfl, rfl, rfl⟩ := H
  go_enter Tryd.func15, Tryd.ntmps15
  go_wp2_with (first | (refine box_evA 5 #[.bool a0_0, .string a0_1, .string a0_2] 29 ?_; intro gb810 hg w21 hbox hb; obtain ⟨n0_, n1_, n2_, n3_⟩ := bx4 w hbox hb hg; revert n0_ n1_ n2_ n3_; clear HB; intro HB BK810 GW810 GE810; clear hb hbox hg) | (refine box_evA 10 #[.bool false, .string (⟨#[]⟩ : ByteArray), .string (⟨#[]⟩ : ByteArray)] 29 ?_; intro gb811 hg w22 hbox hb; have n0_ := bB BK810 hb; have n1_ := sB hb; have n2_ := Aside0.mk (hbox); have n3_ := wE w hg; have n4_ := wE w hg; have n5_ := Aside0.mk (nL BK810 hg); have n6_ := Aside0.mk (nG BK810 hg); revert n0_ n1_ n2_ n3_ n4_ n5_ n6_; clear BK810 HB; intro BK810 HB BK811 GW811 GE811 NB810_811 NB811_810; clear hb hbox hg; have hnb23 := NB810_811.out; have hnc23 := NB811_810.out; have hcz24_0 := cB BK810 0 (.bool a0_0); have hcz24_1 := cB BK810 1 (.string a0_1); have hcz24_2 := cB BK810 2 (.string a0_2); have hfz24_0 := fB BK810 0; have hfz24_1 := fB BK810 1; have hfz24_2 := fB BK810 2) | (refine goesLA 18 Tryd.func33 #[.agg #[.bool a0_0, .string a0_1, .string a0_2], .slice A1 l1.length c1, .int .i64 a2, .int .i64 a3, .int .i64 a4, .int .i64 1] ?_; (with_reducible refine (I1check.calls k a0_0 a0_1 a0_2 _ _ l1 a2 a3 a4 1 t812 _ ?side1 ?side2 A6.out).mono ?_); (case side1 => exact sC (Kd.C_below HR1.out HB.out)); (case side2 => exact HC1.out); rintro e w25 ⟨rfl, hb⟩; refine ⟨_, rfl, ?_⟩; have n0_ := bB BK810 hb; have n1_ := bB BK811 hb; have n2_ := sB hb; revert n0_ n1_ n2_; clear BK810 BK811 HB; intro BK810 BK811 HB; (try clear hb); (try clear hb2); (try clear hk); (try clear hi); have hcz26_0 := cB BK811 0 (.bool false); have hcz26_1 := cB BK811 1 (.string (⟨#[]⟩ : ByteArray)); have hcz26_2 := cB BK811 2 (.string (⟨#[]⟩ : ByteArray)); have hfz26_0 := fB BK811 0; have hfz26_1 := fB BK811 1; have hfz26_2 := fB BK811 2))
  refine bodyPost_ret (results_ct rfl _ _ gb811 29 #[.bool false, .string (⟨#[]⟩ : ByteArray), .string (⟨#[]⟩ : ByteArray)] (0, 0) _ rfl (bC BK811) Tryd.underlying29 rfl (by kernel_rfl)) rfl ?_
  exact ⟨zE, zH⟩
def I1Compound.l0 : Nat → List (S54) → Int → Int → Int → Int → Bool → ByteArray → ByteArray → Bool → ByteArray → ByteArray → Option (Bool × ByteArray × ByteArray × Int)
 | 0, _, _, _, _, _, _, _, _, _, _, _ => none
 | k + 1, x1, x3, x4, x5, x16, x820000, x820001, x820002, x826000, x826001, x826002 => if x16 < x3 then ((I1simple.f k x1 x16 (mn (wrap64 (x16 + x5)) x3) x4).bind fun bt826 => ((Q1Multiply.f k x826000 x826001 x826002 bt826.1 bt826.2.1 bt826.2.2).bind fun bt829 => ((Q1Add.f k x826000 x826001 x826002 bt829.1 bt829.2.1 bt829.2.2).bind fun bt832 => (I1Compound.l0 k x1 x3 x4 x5 (wrap64 (x16 + x5)) x820000 x820001 x820002 bt832.1 bt832.2.1 bt832.2.2)))) else ((Q1Subtract.f k x826000 x826001 x826002 x820000 x820001 x820002).bind fun bt835 => (some (bt835.1, bt835.2.1, bt835.2.2, 0)))
def I1Compound.f (k : Nat) (a0_0 : Bool) (a0_1 : ByteArray) (a0_2 : ByteArray) (l1 : List (S54)) (a2 : Int) (a3 : Int) (a4 : Int) (a5 : Int) : Option (Bool × ByteArray × ByteArray × Int) := (I1check.f k a0_0 a0_1 a0_2 l1 a2 a3 a4 a5).bind fun t821 => (if t821 = 0 then (if (mn a5 1048577) = 0 then (none) else (if (wrap64 (Int.tdiv (wrap64 ((wrap64 ((wrap64 (a3 - a2)) + (mn a5 1048577))) - 1)) (mn a5 1048577))) > 64 then (some (false, (⟨#[]⟩ : ByteArray), (⟨#[]⟩ : ByteArray), 2)) else ((Q1Add.f k a0_0 a0_1 a0_2 false (⟨#[]⟩ : ByteArray) (⟨#[]⟩ : ByteArray)).bind fun bt822 => (I1Compound.l0 k l1 a3 a4 (mn a5 1048577) a2 a0_0 a0_1 a0_2 bt822.1 bt822.2.1 bt822.2.2)))) else (some (false, (⟨#[]⟩ : ByteArray), (⟨#[]⟩ : ByteArray), t821)))
def I1Compound.T11 : Bool × List (List Nat × List Nat) := (true, [([], []), ([], []), ([], []), ([], []), ([], []), ([], []), ([4, 5], [4, 5]), ([], []), ([6, 7], [6, 7]), ([], []), ([2, 3, 8, 9], [2, 3, 8, 9]), ([1, 10, 10], [1, 10]), ([0, 11, 11], [0, 11]), ([12, 12, 0, 1, 2, 3, 4, 5, 6, 7, 8, 9, 10, 11, 12], [12])])
def I1Compound.B11 : List Nat := [0, 0, 0, 0, 0, 0, 48, 0, 240, 0, 1020, 2046, 4095, 8191]
theorem I1Compound.tab11 : rtab .any (opsOf Tryd.f21 11) = I1Compound.T11 := by kernel_rfl
theorem I1Compound.bits11 : waitsOk I1Compound.T11.2 I1Compound.B11 = true := by kernel_rfl
set_option maxHeartbeats 8000000 in
set_option maxRecDepth 100000 in
theorem I1Compound.calls (k : Nat) (a0_0 : Bool) (a0_1 : ByteArray) (a0_2 : ByteArray) (A1 : Option Addr) (c1 : Nat) (l1 : List (S54)) (a2 : Int) (a3 : Int) (a4 : Int) (a5 : Int) (r1 : Bool) (r2 : ByteArray) (r3 : ByteArray) (r4 : Int) (w : World) (hr1 : Kd.C k54 w A1 l1.length l1) (hc1 : l1.length ≤ c1) (h : I1Compound.f k a0_0 a0_1 a0_2 l1 a2 a3 a4 a5 = some (r1, r2, r3, r4)) :
 Calls Tryd.prog 21 #[.agg #[.bool a0_0, .string a0_1, .string a0_2], .slice A1 l1.length c1, .int .i64 a2, .int .i64 a3, .int .i64 a4, .int .i64 a5] w fun e w' => e = .returned (.tuple #[.agg #[.bool r1, .string r2, .string r3], .int .i64 r4]) ∧ Below w.heap.size w w' := by
 have hu29 := Tryd.underlying29
 have HR1 := Aside0.mk hr1
 have HC1 := Aside0.mk hc1
 clear hr1 hc1
 have HB := Aside0.mk (Below.refl w.heap.size w)
 have H : ((I1check.f k a0_0 a0_1 a0_2 l1 a2 a3 a4 a5).bind fun t821 => (if t821 = 0 then (if (mn a5 1048577) = 0 then (none) else (if (wrap64 (Int.tdiv (wrap64 ((wrap64 ((wrap64 (a3 - a2)) + (mn a5 1048577))) - 1)) (mn a5 1048577))) > 64 then (some (false, (⟨#[]⟩ : ByteArray), (⟨#[]⟩ : ByteArray), 2)) else ((Q1Add.f k a0_0 a0_1 a0_2 false (⟨#[]⟩ : ByteArray) (⟨#[]⟩ : ByteArray)).bind fun bt822 => (I1Compound.l0 k l1 a3 a4 (mn a5 1048577) a2 a0_0 a0_1 a0_2 bt822.1 bt822.2.1 bt822.2.2)))) else (some (false, (⟨#[]⟩ : ByteArray), (⟨#[]⟩ : ByteArray), t821)))) = some (r1, r2, r3, r4) := h
 clear h
 replace H := bS H
 obtain ⟨t821, A7, H⟩ := H
 by_cases c8 : t821 = 0
 ·rw [if_pos c8] at H
  have c8b0 := beq_iff_eq.mpr c8
  have c8b1 : (t821 != 0) = false := bne_eq_false_iff_eq.mpr c8
  clear c8
  obtain ⟨ji9, hji9⟩ : ∃ j_ : Int, (mn a5 1048577) = j_ := ⟨_, rfl⟩
  first | rw [hji9] at H | simp only [hji9] at H
  (try rw [hji9] at A7)
  (try (have hji9h : ji9 ≤ 1048577 := by (rw [← hji9]; unfold mn; (repeat' split) <;> omega)))
  (try (have hji9g : ji9 ≤ 64 := by omega))
  have hji9_ : (if 1048577 < a5 then 1048577 else a5) = ji9 := hji9
  by_cases c10 : (ji9) = 0
  ·rw [if_pos c10] at H
   exact absurd H (by simp)
  ·rw [if_neg c10] at H
   have c10b0 := beq_eq_false_iff_ne.mpr c10
   have c10b1 := bne_iff_ne.mpr c10
   by_cases c11 : (wrap64 (Int.tdiv (wrap64 ((wrap64 ((wrap64 (a3 - a2)) + (ji9))) - 1)) (ji9))) > 64
   ·rw [if_pos c11] at H
    have c11b0 := decide_eq_true c11
    clear c11
    simp only [Option.some.injEq, Prod.mk.injEq] at H
    obtain ⟨rfl, rfl, rfl, rfl⟩ := H
    go_enter Tryd.func21, Tryd.ntmps21
    go_wp2_with (first | (refine box_evA 6 #[.bool a0_0, .string a0_1, .string a0_2] 29 ?_; intro gb819 hg w12 hbox hb; obtain ⟨n0_, n1_, n2_, n3_⟩ := bx4 w hbox hb hg; revert n0_ n1_ n2_ n3_; clear HB; intro HB BK819 GW819 GE819; clear hb hbox hg) | (refine box_evA 12 #[.bool false, .string (⟨#[]⟩ : ByteArray), .string (⟨#[]⟩ : ByteArray)] 29 ?_; intro gb820 hg w13 hbox hb; have n0_ := bB BK819 hb; have n1_ := sB hb; have n2_ := Aside0.mk (hbox); have n3_ := wE w hg; have n4_ := wE w hg; have n5_ := Aside0.mk (nL BK819 hg); have n6_ := Aside0.mk (nG BK819 hg); revert n0_ n1_ n2_ n3_ n4_ n5_ n6_; clear BK819 HB; intro BK819 HB BK820 GW820 GE820 NB819_820 NB820_819; clear hb hbox hg; have hnb14 := NB819_820.out; have hnc14 := NB820_819.out; have hcz15_0 := cB BK819 0 (.bool a0_0); have hcz15_1 := cB BK819 1 (.string a0_1); have hcz15_2 := cB BK819 2 (.string a0_2); have hfz15_0 := fB BK819 0; have hfz15_1 := fB BK819 1; have hfz15_2 := fB BK819 2) | (refine goesLA 23 Tryd.func33 #[.agg #[.bool a0_0, .string a0_1, .string a0_2], .slice A1 l1.length c1, .int .i64 a2, .int .i64 a3, .int .i64 a4, .int .i64 a5] ?_; (with_reducible refine (I1check.calls k a0_0 a0_1 a0_2 _ _ l1 a2 a3 a4 a5 t821 _ ?side1 ?side2 A7.out).mono ?_); (case side1 => exact sC (Kd.C_below HR1.out HB.out)); (case side2 => exact HC1.out); rintro e w16 ⟨rfl, hb⟩; refine ⟨_, rfl, ?_⟩; have n0_ := bB BK819 hb; have n1_ := bB BK820 hb; have n2_ := sB hb; revert n0_ n1_ n2_; clear BK819 BK820 HB; intro BK819 BK820 HB; (try clear hb); (try clear hb2); (try clear hk); (try clear hi); have hcz17_0 := cB BK820 0 (.bool false); have hcz17_1 := cB BK820 1 (.string (⟨#[]⟩ : ByteArray)); have hcz17_2 := cB BK820 2 (.string (⟨#[]⟩ : ByteArray)); have hfz17_0 := fB BK820 0; have hfz17_1 := fB BK820 1; have hfz17_2 := fB BK820 2))
    refine bodyPost_ret (results_ct rfl _ _ gb820 29 #[.bool false, .string (⟨#[]⟩ : ByteArray), .string (⟨#[]⟩ : ByteArray)] (0, 0) _ rfl (bC BK820) Tryd.underlying29 rfl (by kernel_rfl)) rfl ?_
    exact ⟨by first | rfl | (simp [errW_none, errW_some] <;> rfl) | (simp only [← hji9]; first | rfl | (simp [errW_none, errW_some] <;> rfl)) | (simp [*, errW_none, errW_some] <;> rfl), zH⟩
   ·rw [if_neg c11] at H
    have c11b0 := decide_eq_false c11
    clear c11
    replace H := bS H
    obtain ⟨⟨t822, t823, t824⟩, A18, H⟩ := H
    (try dsimp only at H)
    have H' := Aside0.mk H
    clear H
    go_enter Tryd.func21, Tryd.ntmps21
    go_wp2_with (first | (refine box_evA 6 #[.bool a0_0, .string a0_1, .string a0_2] 29 ?_; intro gb819 hg w19 hbox hb; obtain ⟨n0_, n1_, n2_, n3_⟩ := bx4 w hbox hb hg; revert n0_ n1_ n2_ n3_; clear HB; intro HB BK819 GW819 GE819; clear hb hbox hg) | (refine box_evA 12 #[.bool false, .string (⟨#[]⟩ : ByteArray), .string (⟨#[]⟩ : ByteArray)] 29 ?_; intro gb820 hg w20 hbox hb; have n0_ := bB BK819 hb; have n1_ := sB hb; have n2_ := Aside0.mk (hbox); have n3_ := wE w hg; have n4_ := wE w hg; have n5_ := Aside0.mk (nL BK819 hg); have n6_ := Aside0.mk (nG BK819 hg); revert n0_ n1_ n2_ n3_ n4_ n5_ n6_; clear BK819 HB; intro BK819 HB BK820 GW820 GE820 NB819_820 NB820_819; clear hb hbox hg; have hnb21 := NB819_820.out; have hnc21 := NB820_819.out; have hcz22_0 := cB BK819 0 (.bool a0_0); have hcz22_1 := cB BK819 1 (.string a0_1); have hcz22_2 := cB BK819 2 (.string a0_2); have hfz22_0 := fB BK819 0; have hfz22_1 := fB BK819 1; have hfz22_2 := fB BK819 2) | (refine goesLA 23 Tryd.func33 #[.agg #[.bool a0_0, .string a0_1, .string a0_2], .slice A1 l1.length c1, .int .i64 a2, .int .i64 a3, .int .i64 a4, .int .i64 a5] ?_; (with_reducible refine (I1check.calls k a0_0 a0_1 a0_2 _ _ l1 a2 a3 a4 a5 t821 _ ?side1 ?side2 A7.out).mono ?_); (case side1 => exact sC (Kd.C_below HR1.out HB.out)); (case side2 => exact HC1.out); rintro e w23 ⟨rfl, hb⟩; refine ⟨_, rfl, ?_⟩; have n0_ := bB BK819 hb; have n1_ := bB BK820 hb; have n2_ := sB hb; revert n0_ n1_ n2_; clear BK819 BK820 HB; intro BK819 BK820 HB; (try clear hb); (try clear hb2); (try clear hk); (try clear hi); have hcz24_0 := cB BK819 0 (.bool a0_0); have hcz24_1 := cB BK819 1 (.string a0_1); have hcz24_2 := cB BK819 2 (.string a0_2); have hfz24_0 := fB BK819 0; have hfz24_1 := fB BK819 1; have hfz24_2 := fB BK819 2) | (refine goesLA 42 Tryd.func20 #[.agg #[.bool a0_0, .string a0_1, .string a0_2], .agg #[.bool false, .string (⟨#[]⟩ : ByteArray), .string (⟨#[]⟩ : ByteArray)]] ?_; (with_reducible refine (Q1Add.calls k a0_0 a0_1 a0_2 false (⟨#[]⟩ : ByteArray) (⟨#[]⟩ : ByteArray) t822 t823 t824 _ A18.out).mono ?_); rintro e w25 ⟨rfl, hb⟩; refine ⟨_, rfl, ?_⟩; have n0_ := bB BK819 hb; have n1_ := bB BK820 hb; have n2_ := sB hb; revert n0_ n1_ n2_; clear BK819 BK820 HB; intro BK819 BK820 HB; (try clear hb); (try clear hb2); (try clear hk); (try clear hi)) | (refine box_evA 15 #[.bool false, .string (⟨#[]⟩ : ByteArray), .string (⟨#[]⟩ : ByteArray)] 29 ?_; intro gb825 hg w26 hbox hb; have n0_ := bB BK819 hb; have n1_ := bB BK820 hb; have n2_ := sB hb; have n3_ := Aside0.mk (hbox); have n4_ := wE w hg; have n5_ := wE w hg; have n6_ := Aside0.mk (nL BK819 hg); have n7_ := Aside0.mk (nG BK819 hg); have n8_ := Aside0.mk (nL BK820 hg); have n9_ := Aside0.mk (nG BK820 hg); revert n0_ n1_ n2_ n3_ n4_ n5_ n6_ n7_ n8_ n9_; clear BK819 BK820 HB; intro BK819 BK820 HB BK825 GW825 GE825 NB819_825 NB825_819 NB820_825 NB825_820; clear hb hbox hg; have hnb27 := NB825_819.out; have hnc27 := NB819_825.out; have hnb28 := NB825_820.out; have hnc28 := NB820_825.out; have hcz29_0 := cB BK825 0 (.bool false); have hcz29_1 := cB BK825 1 (.string (⟨#[]⟩ : ByteArray)); have hcz29_2 := cB BK825 2 (.string (⟨#[]⟩ : ByteArray)); have hfz29_0 := fB BK825 0; have hfz29_1 := fB BK825 1; have hfz29_2 := fB BK825 2))
    go_loopg [16] k (fun kq v16 w' => ∃ (x16_1 : Int) (x826000_1 : Bool) (x826001_1 : ByteArray) (x826002_1 : ByteArray), v16 = .int .i64 x16_1 ∧ Aside0 (I1Compound.l0 kq l1 a3 a4 ji9 x16_1 a0_0 a0_1 a0_2 x826000_1 x826001_1 x826002_1 = some (r1, r2, r3, r4)) ∧ Aside0 (kq ≤ k) ∧ Aside0 (w'.heap[gb819]? = some (.cells #[.bool a0_0, .string a0_1, .string a0_2] 29 (0, 0))) ∧ Aside0 (w'.heap[gb820]? = some (.cells #[.bool false, .string (⟨#[]⟩ : ByteArray), .string (⟨#[]⟩ : ByteArray)] 29 (0, 0))) ∧ Aside0 (w'.heap[gb825]? = some (.cells #[.bool x826000_1, .string x826001_1, .string x826002_1] 29 (0, 0))) ∧ Aside0 (Below w.heap.size w w'))
    case atStart => exact ⟨(a2), (t822), (t823), (t824), zq1, H', ⟨Nat.le_refl _⟩, ⟨bC BK819⟩, ⟨bC BK820⟩, ⟨bC BK825⟩, ⟨zH⟩⟩
    case round =>
     clear H'
     obtain ⟨x16_1, x826000_1, x826001_1, x826002_1, rfl, HA, HK1, BK819, BK820, BK825, HB⟩ := hrel
     cases gk with
     | zero => exact absurd HA.out (by simp [I1Compound.l0])
     | succ k1 =>
      have H := HA.out
      clear HA
      simp only [I1Compound.l0] at H
      by_cases c30 : x16_1 < a3
      ·rw [if_pos c30] at H
       have c30b0 := decide_eq_true c30
       clear c30
       obtain ⟨ji31, hji31⟩ : ∃ j_ : Int, (mn (wrap64 (x16_1 + ji9)) a3) = j_ := ⟨_, rfl⟩
       first | rw [hji31] at H | simp only [hji31] at H
       have hji31_ : (if a3 < (wrap64 (x16_1 + ji9)) then a3 else (wrap64 (x16_1 + ji9))) = ji31 := hji31
       replace H := bS H
       obtain ⟨⟨t826, t827, t828⟩, A32, H⟩ := H
       (try dsimp only at H)
       replace H := bS H
       obtain ⟨⟨t829, t830, t831⟩, A33, H⟩ := H
       (try dsimp only at H)
       replace H := bS H
       obtain ⟨⟨t832, t833, t834⟩, A34, H⟩ := H
       (try dsimp only at H)
       have H' := Aside0.mk H
       clear H
       try go_wp2
       have n0_ := Aside0.mk (blk_drew BK819.out)
       have n1_ := Aside0.mk (blk_drew BK820.out)
       have n2_ := Aside0.mk (blk_drew BK825.out)
       have n3_ := Aside0.mk (below_drew1 HB.out)
       revert n0_ n1_ n2_ n3_
       clear BK819 BK820 BK825 HB
       intro BK819 BK820 BK825 HB
       refine start_ (n := 14) (S := fun w' => w'.cell? ⟨gb825, 0, none⟩ = some (.bool x826000_1) ∧ w'.cell? ⟨gb825, 1, none⟩ = some (.string x826001_1) ∧ w'.cell? ⟨gb825, 2, none⟩ = some (.string x826002_1)) (ds := [13]) #[false, false, false, false, false, false, false, false, false, false, false, false, false, false] (by kernel_rfl) rfl rfl ⟨cA BK825 0, cA BK825 1, cA BK825 2⟩ (fun hHeld => ?_); refine with_tabW I1Compound.tab11 I1Compound.bits11 (fun HT_ HW_ => ?_)
       generalize wr.drew = w35 at BK819 BK820 BK825 HB hHeld ⊢
       refine pureA 2 52 (lB 14 4) rfl rfl ?_
       refine pureA 3 53 (lB 14 12) rfl rfl ?_
       refine pureA 4 54 (lB 14 28) rfl rfl ?_
       refine pureA 5 55 (lB 14 60) rfl rfl ?_
       refine pureA 6 56 (lB 14 124) rfl rfl ?_
       refine pureA 7 57 (lB 14 252) rfl rfl ?_
       refine pureA 8 58 (lB 14 508) rfl rfl ?_
       refine pureA 9 59 (lB 14 1020) rfl rfl ?_
       refine takeA 0 50 (lB 14 1021) rfl rfl hHeld ?_
       refine takeA 1 51 (lB 14 1023) rfl rfl hHeld ?_
       refine oneA 10 60 (lB 14 2047) rfl rfl (fun K hK => ?_)
       refine goes_ Tryd.func34 (by kernel_rfl) rfl #[.slice A1 l1.length c1, .int .i64 x16_1, .int .i64 ji31, .int .i64 a4] (by rfl) rfl rfl (by (try simp only [List.map_toArray, List.map_cons, List.map_nil]); first | done | (simp only [hji31]; rfl) | rfl | (simp only [List.length_drop, List.length_take]; rfl)) ?_
       with_reducible refine (I1simple.calls k1 _ _ l1 x16_1 ji31 a4 t826 t827 t828 _ ?side1 ?side2 A32.out).mono ?_
       (case side1 => exact sC (Kd.C_below HR1.out HB.out))
       (case side2 => exact HC1.out)
       rintro e w36 ⟨rfl, hb⟩
       refine ⟨_, rfl, ?_⟩
       have n0_ := bB BK819 hb
       have n1_ := bB BK820 hb
       have n2_ := bB BK825 hb
       have n3_ := sB hb
       revert n0_ n1_ n2_ n3_
       clear BK819 BK820 BK825 HB
       intro BK819 BK820 BK825 HB
       (try clear hb); (try clear hb2); (try clear hk); (try clear hi)
       refine hK.out _ _ ⟨cA BK825 0, cA BK825 1, cA BK825 2⟩ (fun hHeld => ?_)
       clear hK K
       refine normA (N := 60) ?_
       refine oneA 11 61 (lB 14 4095) rfl rfl (fun K hK => ?_)
       refine goes_ Tryd.func19 (by kernel_rfl) rfl #[.agg #[.bool x826000_1, .string x826001_1, .string x826002_1], .agg #[.bool t826, .string t827, .string t828]] (by rfl) rfl rfl zq2 ?_
       with_reducible refine (Q1Multiply.calls k1 x826000_1 x826001_1 x826002_1 t826 t827 t828 t829 t830 t831 _ A33.out).mono ?_
       rintro e w37 ⟨rfl, hb⟩
       refine ⟨_, rfl, ?_⟩
       have n0_ := bB BK819 hb
       have n1_ := bB BK820 hb
       have n2_ := bB BK825 hb
       have n3_ := sB hb
       revert n0_ n1_ n2_ n3_
       clear BK819 BK820 BK825 HB
       intro BK819 BK820 BK825 HB
       (try clear hb); (try clear hb2); (try clear hk); (try clear hi)
       refine hK.out _ _ ⟨cA BK825 0, cA BK825 1, cA BK825 2⟩ (fun hHeld => ?_)
       clear hK K
       refine normA (N := 61) ?_
       refine oneA 12 62 (lB 14 8191) rfl rfl (fun K hK => ?_)
       refine goes_ Tryd.func20 (by kernel_rfl) rfl #[.agg #[.bool x826000_1, .string x826001_1, .string x826002_1], .agg #[.bool t829, .string t830, .string t831]] (by rfl) rfl rfl zq2 ?_
       with_reducible refine (Q1Add.calls k1 x826000_1 x826001_1 x826002_1 t829 t830 t831 t832 t833 t834 _ A34.out).mono ?_
       rintro e w38 ⟨rfl, hb⟩
       refine ⟨_, rfl, ?_⟩
       have n0_ := bB BK819 hb
       have n1_ := bB BK820 hb
       have n2_ := bB BK825 hb
       have n3_ := sB hb
       revert n0_ n1_ n2_ n3_
       clear BK819 BK820 BK825 HB
       intro BK819 BK820 BK825 HB
       (try clear hb); (try clear hb2); (try clear hk); (try clear hi)
       refine hK.out _ _ ⟨cA BK825 0, cA BK825 1, cA BK825 2⟩ (fun hHeld => ?_)
       clear hK K
       refine normA (N := 62) ?_
       refine last_ (i := 13) (N := none) (lB 14 16383) rfl rfl (one_of HT_.out (by kernel_rfl)) (by decide) (fun K hK => ?_)
       have hs39 := cB BK825 0 (.bool x826000_1)
       have hfs39 := fB BK825 0
       have hns39_0 := NB819_825.out
       have hns39_1 := NB820_825.out
       have hms39_0 := NB825_819.out
       have hms39_1 := NB825_820.out
       have hs40 := cB BK825 1 (.string x826001_1)
       have hfs40 := fB BK825 1
       have hns40_0 := NB819_825.out
       have hns40_1 := NB820_825.out
       have hms40_0 := NB825_819.out
       have hms40_1 := NB825_820.out
       have hs41 := cB BK825 2 (.string x826002_1)
       have hfs41 := fB BK825 2
       have hns41_0 := NB819_825.out
       have hns41_1 := NB820_825.out
       have hms41_0 := NB825_819.out
       have hms41_1 := NB825_820.out
       refine skip_ (w1 := ?_) (by rfl) rfl ?_ ?_
       rotate_left
       ·go_simp
        rfl
       refine hK.out _ _ ?_
       clear hK K
       refine done_ (done_of HT_.out (by kernel_rfl)) ?_
       try go_wp2
       go_roundg k1
       case measure => have := HK1.out; omega
       case rel => exact ⟨(wrap64 (x16_1 + ji9)), (t832), (t833), (t834), (by first | rfl | (simp; done) | (simp only [← hji9] <;> (first | rfl | simp)) | (simp [*]; done)), H', ⟨by have := HK1.out; omega⟩, ⟨bC BK819⟩, ⟨bC BK820⟩, ⟨bC BK825⟩, ⟨zH⟩⟩
      ·rw [if_neg c30] at H
       have c30b0 := decide_eq_false c30
       clear c30
       replace H := bS H
       obtain ⟨⟨t835, t836, t837⟩, A42, H⟩ := H
       (try dsimp only at H)
       simp only [Option.some.injEq, Prod.mk.injEq] at H
       obtain ⟨rfl, rfl, rfl, rfl⟩ := H
       have hnb43 := NB825_819.out
       have hnc43 := NB819_825.out
       have hnb44 := NB825_820.out
       have hnc44 := NB820_825.out
       have hcz45_0 := cB BK825 0 (.bool x826000_1)
       have hcz45_1 := cB BK825 1 (.string x826001_1)
       have hcz45_2 := cB BK825 2 (.string x826002_1)
       have hfz45_0 := fB BK825 0
       have hfz45_1 := fB BK825 1
       have hfz45_2 := fB BK825 2
       have hnb46 := NB819_820.out
       have hnc46 := NB820_819.out
       have hcz47_0 := cB BK819 0 (.bool a0_0)
       have hcz47_1 := cB BK819 1 (.string a0_1)
       have hcz47_2 := cB BK819 2 (.string a0_2)
       have hfz47_0 := fB BK819 0
       have hfz47_1 := fB BK819 1
       have hfz47_2 := fB BK819 2
       go_wp2_with (first | (refine goesLA 65 Tryd.func46 #[.agg #[.bool x826000_1, .string x826001_1, .string x826002_1], .agg #[.bool a0_0, .string a0_1, .string a0_2]] ?_; (with_reducible refine (Q1Subtract.calls k1 x826000_1 x826001_1 x826002_1 a0_0 a0_1 a0_2 t835 t836 t837 _ A42.out).mono ?_); rintro e w48 ⟨rfl, hb⟩; refine ⟨_, rfl, ?_⟩; have n0_ := bB BK819 hb; have n1_ := bB BK820 hb; have n2_ := bB BK825 hb; have n3_ := sB hb; revert n0_ n1_ n2_ n3_; clear BK819 BK820 BK825 HB; intro BK819 BK820 BK825 HB; (try clear hb); (try clear hb2); (try clear hk); (try clear hi); have hcz49_0 := cB BK820 0 (.bool false); have hcz49_1 := cB BK820 1 (.string (⟨#[]⟩ : ByteArray)); have hcz49_2 := cB BK820 2 (.string (⟨#[]⟩ : ByteArray)); have hfz49_0 := fB BK820 0; have hfz49_1 := fB BK820 1; have hfz49_2 := fB BK820 2))
       refine bodyPost_ret (results_ct rfl _ _ gb820 29 #[.bool t835, .string t836, .string t837] (0, 0) _ rfl (bC BK820) Tryd.underlying29 rfl (by kernel_rfl)) rfl ?_
       exact ⟨by first | rfl | (simp [errW_none, errW_some] <;> rfl) | (simp only [← hji9]; first | rfl | (simp [errW_none, errW_some] <;> rfl)) | (simp [*, errW_none, errW_some] <;> rfl), zH⟩
 ·rw [if_neg c8] at H
  have c8b0 := beq_eq_false_iff_ne.mpr c8
  have c8b1 := bne_iff_ne.mpr c8
  simp only [Option.some.injEq, Prod.mk.injEq] at H
  obtain ⟨rfl, rfl, rfl, rfl⟩ := H
  go_enter Tryd.func21, Tryd.ntmps21
  go_wp2_with (first | (refine box_evA 6 #[.bool a0_0, .string a0_1, .string a0_2] 29 ?_; intro gb819 hg w50 hbox hb; obtain ⟨n0_, n1_, n2_, n3_⟩ := bx4 w hbox hb hg; revert n0_ n1_ n2_ n3_; clear HB; intro HB BK819 GW819 GE819; clear hb hbox hg) | (refine box_evA 12 #[.bool false, .string (⟨#[]⟩ : ByteArray), .string (⟨#[]⟩ : ByteArray)] 29 ?_; intro gb820 hg w51 hbox hb; have n0_ := bB BK819 hb; have n1_ := sB hb; have n2_ := Aside0.mk (hbox); have n3_ := wE w hg; have n4_ := wE w hg; have n5_ := Aside0.mk (nL BK819 hg); have n6_ := Aside0.mk (nG BK819 hg); revert n0_ n1_ n2_ n3_ n4_ n5_ n6_; clear BK819 HB; intro BK819 HB BK820 GW820 GE820 NB819_820 NB820_819; clear hb hbox hg; have hnb52 := NB819_820.out; have hnc52 := NB820_819.out; have hcz53_0 := cB BK819 0 (.bool a0_0); have hcz53_1 := cB BK819 1 (.string a0_1); have hcz53_2 := cB BK819 2 (.string a0_2); have hfz53_0 := fB BK819 0; have hfz53_1 := fB BK819 1; have hfz53_2 := fB BK819 2) | (refine goesLA 23 Tryd.func33 #[.agg #[.bool a0_0, .string a0_1, .string a0_2], .slice A1 l1.length c1, .int .i64 a2, .int .i64 a3, .int .i64 a4, .int .i64 a5] ?_; (with_reducible refine (I1check.calls k a0_0 a0_1 a0_2 _ _ l1 a2 a3 a4 a5 t821 _ ?side1 ?side2 A7.out).mono ?_); (case side1 => exact sC (Kd.C_below HR1.out HB.out)); (case side2 => exact HC1.out); rintro e w54 ⟨rfl, hb⟩; refine ⟨_, rfl, ?_⟩; have n0_ := bB BK819 hb; have n1_ := bB BK820 hb; have n2_ := sB hb; revert n0_ n1_ n2_; clear BK819 BK820 HB; intro BK819 BK820 HB; (try clear hb); (try clear hb2); (try clear hk); (try clear hi); have hcz55_0 := cB BK820 0 (.bool false); have hcz55_1 := cB BK820 1 (.string (⟨#[]⟩ : ByteArray)); have hcz55_2 := cB BK820 2 (.string (⟨#[]⟩ : ByteArray)); have hfz55_0 := fB BK820 0; have hfz55_1 := fB BK820 1; have hfz55_2 := fB BK820 2))
  refine bodyPost_ret (results_ct rfl _ _ gb820 29 #[.bool false, .string (⟨#[]⟩ : ByteArray), .string (⟨#[]⟩ : ByteArray)] (0, 0) _ rfl (bC BK820) Tryd.underlying29 rfl (by kernel_rfl)) rfl ?_
  exact ⟨zE, zH⟩
end Go.Proofs.YtggfilmdfpmbmaaDoor.QN
end
