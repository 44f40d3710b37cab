/-
  Steps and laws behind the statement that the claim's last text proves: the words of the walks, the walks of the Go functions (printed by a program of this session's own, then shortened by one), and what they compute. Conditions: stated at each theorem.
-/
import Derived.Test.YtggfilmdfpmbmaaGreatDoorP9
import Derived.Test.YtggfilmdfpmbmaaGreatDoorP5
import Derived.Test.YtggfilmdfpmbmaaGreatDoorP4
import Derived.Test.YtggfilmdfpmbmaaGreatDoorP0
section
namespace Go.Proofs.YtggfilmdfpmbmaaGreatDoor.QN
open Go.RowKit Go.Proofs.YtggfilmdfpmbmaaGreatDoorW.PrintWords Go.Proofs.YtggfilmdfpmbmaaGreatDoorW.PrintLast Go.Proofs.YtggfilmdfpmbmaaGreatDoorW.PrintMore
attribute [local go_sem] max2_int min2_int max_two min_two max_three min_three max_four min_four
set_option linter.unusedVariables false
set_option linter.unusedSimpArgs false
attribute [local go_sem high] eqA23
mutual
def I1simple.l0 : Nat → List (S29) → Int → Int → Int → List (S29) → Int → Int → Bool → ByteArray → ByteArray → Option (Bool × ByteArray × ByteArray)
 | 0, _, _, _, _, _, _, _, _, _, _ => none
 | k + 1, x0, x1, x2, x3, x17, x18, x19, x771000, x771001, x771002 => if x19 < x18 then (if 0 ≤ x19 then (if x19 < (x17.length : Int) then (if (wrap64 (x19 + 1)) < (x0.length : Int) then (if 0 ≤ (wrap64 (x19 + 1)) then (I1simple.j1 k x0 x1 x2 x3 (mx x1 ((rd_T29 x17 x19).f0)) (mn x2 ((rd_T29 x0 (wrap64 (x19 + 1))).f0)) x17 x18 x19 x771000 x771001 x771002 ((rd_T29 x17 x19).f0) ((rd_T29 x17 x19).f1.f0) ((rd_T29 x17 x19).f1.f1) ((rd_T29 x17 x19).f1.f2)) else (none)) else (I1simple.j1 k x0 x1 x2 x3 (mx x1 ((rd_T29 x17 x19).f0)) x2 x17 x18 x19 x771000 x771001 x771002 ((rd_T29 x17 x19).f0) ((rd_T29 x17 x19).f1.f0) ((rd_T29 x17 x19).f1.f1) ((rd_T29 x17 x19).f1.f2))) else (none)) else (none)) else ((Q1Int.f k x3).bind fun bt771 => ((Q1Divide.f k x771000 x771001 x771002 bt771.1 bt771.2.1 bt771.2.2).bind fun bt774 => (some (bt774.1, bt774.2.1, bt774.2.2.1))))
def I1simple.j1 : Nat → List (S29) → Int → Int → Int → Int → Int → List (S29) → Int → Int → Bool → ByteArray → ByteArray → Int → Bool → ByteArray → ByteArray → Option (Bool × ByteArray × ByteArray)
 | 0, _, _, _, _, _, _, _, _, _, _, _, _, _, _, _, _ => none
 | k + 1, x0, x1, x2, x3, x12, x13, x17, x18, x19, x771000, x771001, x771002, x781000, x781001, x781002, x781003 => if x13 > x12 then ((Q1Int.f k (wrap64 (x13 - x12))).bind fun bt782 => ((Q1Multiply.f k x781001 x781002 x781003 bt782.1 bt782.2.1 bt782.2.2).bind fun bt785 => ((Q1Add.f k x771000 x771001 x771002 bt785.1 bt785.2.1 bt785.2.2).bind fun bt788 => (I1simple.l0 k x0 x1 x2 x3 x17 x18 (wrap64 (x19 + 1)) bt788.1 bt788.2.1 bt788.2.2)))) else (I1simple.l0 k x0 x1 x2 x3 x17 x18 (wrap64 (x19 + 1)) x771000 x771001 x771002)
end
def I1simple.f (k : Nat) (l0 : List (S29)) (a1 a2 a3 : Int) : Option (Bool × ByteArray × ByteArray) := I1simple.l0 k l0 a1 a2 a3 l0 (l0.length : Int) 0 false (⟨#[]⟩ : ByteArray) (⟨#[]⟩ : ByteArray)
def I1simple.T9 : Bool × List (List Nat × List Nat) := (true, [([], []), ([], []), ([1], [1]), ([], []), ([], []), ([3, 4], [3, 4]), ([5], [5]), ([2, 6, 6], [2, 6]), ([0, 7, 7], [0, 7]), ([8, 8, 0, 1, 2, 3, 4, 5, 6, 7, 8], [8])])
def I1simple.B9 : List Nat := [0, 0, 2, 0, 0, 24, 56, 126, 255, 511]
theorem I1simple.tab9 : rtab .any (opsOf Tryz.f19 9) = I1simple.T9 := by kernel_rfl
theorem I1simple.bits9 : waitsOk I1simple.T9.2 I1simple.B9 = true := by kernel_rfl
def I1simple.T11 : Bool × List (List Nat × List Nat) := (true, [([], []), ([], []), ([1], [1]), ([0, 2, 2], [0, 2]), ([3], [3]), ([4], [4]), ([4], [4]), ([], []), ([7, 5, 3, 0, 1, 2, 3, 4, 5, 7], [5, 7]), ([6, 8, 0, 1, 2, 3, 4, 5, 6, 7, 8], [6])])
def I1simple.B11 : List Nat := [0, 0, 2, 7, 15, 31, 31, 0, 191, 511]
theorem I1simple.tab11 : rtab .any (opsOf Tryz.f19 11) = I1simple.T11 := by kernel_rfl
theorem I1simple.bits11 : waitsOk I1simple.T11.2 I1simple.B11 = true := by kernel_rfl
set_option maxHeartbeats 8000000 in
set_option maxRecDepth 100000 in
theorem I1simple.calls (k : Nat) (A0 : Option Addr) (c0 : Nat) (l0 : List (S29)) (a1 a2 a3 : Int) (r1 : Bool) (r2 r3 : ByteArray) (w : World) (hr0 : Kd.C k29 w A0 l0.length l0) (hc0 : l0.length ≤ c0) (H : I1simple.f k l0 a1 a2 a3 = some (r1, r2, r3)) :
 Calls Tryz.prog 19 #[.slice A0 l0.length c0, .int .i64 a1, .int .i64 a2, .int .i64 a3] w fun e w' => e = .returned (.agg #[.bool r1, .string r2, .string r3]) ∧ Below w.heap.size w w' := by
 have hu1 := Tryz.underlying23
 have hu2 := Tryz.underlying29
 have HR0 := Aside0.mk hr0
 have HC0 := Aside0.mk hc0
 clear hr0 hc0
 have HB := Aside0.mk (Below.refl w.heap.size w)
 unfold I1simple.f at H
 have H' := Aside0.mk H
 clear H
 go_enter Tryz.func19, Tryz.ntmps19
 go_wp2_with (first | (refine bxZ w 8 23 fun g1 w2 B1 G1 hg hb HB => ?_; clear hb hg) | (refine bxZ w 9 23 fun g2 w3 B2 G2 hg hb HB => ?_; obtain ⟨N1, N2⟩ := nP B1 hg; replace B1 := bB B1 hb; clear hb hg; have m1 := N2; have n1 := N1; obtain ⟨_, _, _, _, _, _⟩ := xB3 B2))
 go_loopg [19] k (fun kq v1 w' => ∃ (x1 : Int) (x2 : Bool) (x3 : ByteArray) (x4 : ByteArray), v1 = .int .i64 x1 ∧ Aside0 (I1simple.l0 kq l0 a1 a2 a3 l0 (l0.length : Int) x1 x2 x3 x4 = some (r1, r2, r3)) ∧ Aside0 (kq ≤ k) ∧ Aside0 (w'.heap[g1]? = some (.cells #[.bool false, .string (⟨#[]⟩ : ByteArray), .string (⟨#[]⟩ : ByteArray)] 23 (0, 0))) ∧ Aside0 (w'.heap[g2]? = some (.cells #[.bool x2, .string x3, .string x4] 23 (0, 0))) ∧ Aside0 (Below w.heap.size w w'))
 case atStart => exact ⟨(0), (false), ((⟨#[]⟩ : ByteArray)), ((⟨#[]⟩ : ByteArray)), zq1, H', ⟨Nat.le_refl _⟩, ⟨bC B1⟩, ⟨bC B2⟩, ⟨zH⟩⟩
 case round =>
  clear H'
  obtain ⟨x1, x2, x3, x4, rfl, HA, HK1, B1, B2, HB⟩ := hrel
  cases gk with
  | zero => exact absurd HA.out (by simp [I1simple.l0])
  | succ k1 =>
   have H := HA.out
   clear HA
   simp only [I1simple.l0] at H
   replace H := iL H
   rcases H with ⟨c1b0, H⟩ | ⟨c1b0, H⟩
   ·replace ⟨c2b0, H⟩ := iteD H
    replace ⟨c3b0, H⟩ := iteD H
    obtain ⟨j2, jh1⟩ : ∃ j_ : Int, (mx a1 ((rd_T29 l0 x1).f0)) = j_ := ⟨_, rfl⟩
    first | rw [jh1] at H | simp only [jh1] at H
    have hji12_ : (if a1 < ((rd_T29 l0 x1).f0) then ((rd_T29 l0 x1).f0) else a1) = j2 := jh1
    have HC13 := Aside0.mk H
    clear H
    have p1 : 0 ≤ (x1 : Int) := of_decide_eq_true zq0
    have q1 : x1 < (l0.length : Int) := of_decide_eq_true zq0
    obtain ⟨ad1, e1, hx1, hx2, hx3, hx4⟩ := at_T29 HR0.out x1 p1 q1
    cases e1
    (try replace hx1 := hM HB hx1)
    (try replace hx2 := hM HB hx2)
    (try replace hx3 := hM HB hx3)
    (try replace hx4 := hM HB hx4)
    replace p1 := eq_true p1
    replace q1 := eq_true q1
    go_upto_if 33 with (refine bxA w 11 #[.int .i64 0, .bool false, .string (⟨#[]⟩ : ByteArray), .string (⟨#[]⟩ : ByteArray)] 29 fun g3 w4 B3 G3 hg hb HB => ?_; obtain ⟨N3, N4⟩ := nP B1 hg; obtain ⟨N5, N6⟩ := nP B2 hg; replace B1 := bB B1 hb; replace B2 := bB B2 hb; clear hb hg; have m2 := N4; have n2 := N3; have m3 := N6; have n3 := N5; obtain ⟨_, _, _, _, _, _, _, _⟩ := xB4 B3)
    (try simp only [Act.put, List.setIfInBounds_toArray, List.set_cons_zero, List.set_cons_succ])
    go_cut [13] (fun v2 wc => ∃ (kq : Nat) (x5 : Int), v2 = .int .i64 x5 ∧ Aside0 (I1simple.j1 kq l0 a1 a2 a3 j2 x5 l0 (l0.length : Int) x1 x2 x3 x4 ((rd_T29 l0 x1).f0) ((rd_T29 l0 x1).f1.f0) ((rd_T29 l0 x1).f1.f1) ((rd_T29 l0 x1).f1.f2) = some (r1, r2, r3)) ∧ Aside0 (kq ≤ k1) ∧ Aside0 (wc.heap[g1]? = some (.cells #[.bool false, .string (⟨#[]⟩ : ByteArray), .string (⟨#[]⟩ : ByteArray)] 23 (0, 0))) ∧ Aside0 (wc.heap[g2]? = some (.cells #[.bool x2, .string x3, .string x4] 23 (0, 0))) ∧ Aside0 (wc.heap[g3]? = some (.cells #[.int .i64 ((rd_T29 l0 x1).f0), .bool ((rd_T29 l0 x1).f1.f0), .string ((rd_T29 l0 x1).f1.f1), .string ((rd_T29 l0 x1).f1.f2)] 29 (0, 0))) ∧ Aside0 (Below w.heap.size w wc))
    case first =>
     have H := HC13.out
     clear HC13
     replace H := iL H
     rcases H with ⟨c4b0, H⟩ | ⟨c4b0, H⟩
     ·(first | rw [c4b0] | (simp only [i64_w, i32_w]; rw [c4b0]) | rw [c4b1] | skip)
      obtain ⟨j3, jh2, jh2w⟩ := jI (x1 + 1)
      first | rw [jh2] at H | simp only [jh2] at H
      (try rw [jh2] at c4b0)
      replace ⟨c5b0, H⟩ := iteD H
      obtain ⟨j4, jh3⟩ : ∃ j_ : Int, (mn a2 ((rd_T29 l0 (j3)).f0)) = j_ := ⟨_, rfl⟩
      first | rw [jh3] at H | simp only [jh3] at H
      have hji21_ : (if ((rd_T29 l0 (j3)).f0) < a2 then ((rd_T29 l0 (j3)).f0) else a2) = j4 := jh3
      have H' := Aside0.mk H
      clear H
      have p2 : 0 ≤ ((j3) : Int) := of_decide_eq_true zq0
      have q2 : (j3) < (l0.length : Int) := of_decide_eq_true zq0
      obtain ⟨ad2, e2, hx5, hx6, hx7, hx8⟩ := at_T29 HR0.out (j3) p2 q2
      obtain rfl : ad1 = ad2 := (by injection e2)
      have hn781_0 : ad1.block ≠ g3 := Nat.ne_of_lt (Nat.lt_of_lt_of_le (by have := World.block_lt_of_cell? _ _ hx5; first | rwa [add_block] at this | exact this) G3.out)
      have hn781_1 : ad1.block ≠ g3 := Nat.ne_of_lt (Nat.lt_of_lt_of_le (by have := World.block_lt_of_cell? _ _ hx5; first | rwa [add_block] at this | exact this) G3.out)
      have hn781_2 : ad1.block ≠ g3 := Nat.ne_of_lt (Nat.lt_of_lt_of_le (by have := World.block_lt_of_cell? _ _ hx5; first | rwa [add_block] at this | exact this) G3.out)
      have hn781_3 : ad1.block ≠ g3 := Nat.ne_of_lt (Nat.lt_of_lt_of_le (by have := World.block_lt_of_cell? _ _ hx5; first | rwa [add_block] at this | exact this) G3.out)
      (try replace hx5 := hM HB hx5)
      (try replace hx6 := hM HB hx6)
      (try replace hx7 := hM HB hx7)
      (try replace hx8 := hM HB hx8)
      replace hx5 := (cell_far (p := ⟨g3, 0, none⟩) zq42 (.int .i64 ((rd_T29 l0 x1).f0))).trans hx5
      replace hx6 := (cell_far (p := ⟨g3, 0, none⟩) zq42 (.int .i64 ((rd_T29 l0 x1).f0))).trans hx6
      replace hx7 := (cell_far (p := ⟨g3, 0, none⟩) zq42 (.int .i64 ((rd_T29 l0 x1).f0))).trans hx7
      replace hx8 := (cell_far (p := ⟨g3, 0, none⟩) zq42 (.int .i64 ((rd_T29 l0 x1).f0))).trans hx8
      replace hx5 := (cell_far (p := ⟨g3, 1, none⟩) zq43 (.bool ((rd_T29 l0 x1).f1.f0))).trans hx5
      replace hx6 := (cell_far (p := ⟨g3, 1, none⟩) zq43 (.bool ((rd_T29 l0 x1).f1.f0))).trans hx6
      replace hx7 := (cell_far (p := ⟨g3, 1, none⟩) zq43 (.bool ((rd_T29 l0 x1).f1.f0))).trans hx7
      replace hx8 := (cell_far (p := ⟨g3, 1, none⟩) zq43 (.bool ((rd_T29 l0 x1).f1.f0))).trans hx8
      replace hx5 := (cell_far (p := ⟨g3, 2, none⟩) zq44 (.string ((rd_T29 l0 x1).f1.f1))).trans hx5
      replace hx6 := (cell_far (p := ⟨g3, 2, none⟩) zq44 (.string ((rd_T29 l0 x1).f1.f1))).trans hx6
      replace hx7 := (cell_far (p := ⟨g3, 2, none⟩) zq44 (.string ((rd_T29 l0 x1).f1.f1))).trans hx7
      replace hx8 := (cell_far (p := ⟨g3, 2, none⟩) zq44 (.string ((rd_T29 l0 x1).f1.f1))).trans hx8
      replace hx5 := (cell_far (p := ⟨g3, 3, none⟩) zq45 (.string ((rd_T29 l0 x1).f1.f2))).trans hx5
      replace hx6 := (cell_far (p := ⟨g3, 3, none⟩) zq45 (.string ((rd_T29 l0 x1).f1.f2))).trans hx6
      replace hx7 := (cell_far (p := ⟨g3, 3, none⟩) zq45 (.string ((rd_T29 l0 x1).f1.f2))).trans hx7
      replace hx8 := (cell_far (p := ⟨g3, 3, none⟩) zq45 (.string ((rd_T29 l0 x1).f1.f2))).trans hx8
      clear hn781_0 hn781_1 hn781_2 hn781_3
      replace p2 := eq_true p2
      replace q2 := eq_true q2
      go_wp2
      go_meet
      case rel => exact ⟨_, (j4), (by first | rfl | (simp; done) | (simp only [← jh3] <;> (first | rfl | simp)) | (simp [*]; done)), H', ⟨zq12⟩, ⟨bC B1⟩, ⟨bC B2⟩, ⟨bC B3⟩, ⟨zH⟩⟩
     ·(first | rw [c4b0] | (simp only [i64_w, i32_w]; rw [c4b0]) | rw [c4b1] | skip)
      have H' := Aside0.mk H
      clear H
      go_wp2
      go_meet
      case rel => exact ⟨_, (a2), zq1, H', ⟨zq12⟩, ⟨bC B1⟩, ⟨bC B2⟩, ⟨bC B3⟩, ⟨zH⟩⟩
    case rest =>
     clear HC13
     obtain ⟨kq, x5, rfl, HA, HJ12, B1, B2, B3, HB⟩ := hcut
     cases kq with
     | zero => exact absurd HA.out (by simp [I1simple.j1])
     | succ kj12 =>
      have H := HA.out
      clear HA
      simp only [I1simple.j1] at H
      replace H := iL H
      rcases H with ⟨c5b0, H⟩ | ⟨c5b0, H⟩
      ·replace ⟨⟨t1, t2, t3⟩, A1, H⟩ := bS H
       (try dsimp only at H)
       replace ⟨⟨t4, t5, t6⟩, A2, H⟩ := bS H
       (try dsimp only at H)
       replace ⟨⟨t7, t8, t9⟩, A3, H⟩ := bS H
       (try dsimp only at H)
       have H' := Aside0.mk H
       clear H
       try go_wp2
       replace B1 := bD B1
       replace B2 := bD B2
       replace B3 := bD B3
       replace HB := hD HB
       refine startA 10 (S := fun w' => w'.cell? ⟨g2, 0, none⟩ = some (.bool x2) ∧ w'.cell? ⟨g2, 1, none⟩ = some (.string x3) ∧ w'.cell? ⟨g2, 2, none⟩ = some (.string x4) ∧ w'.cell? ⟨g3, 0, none⟩ = some (.int .i64 ((rd_T29 l0 x1).f0)) ∧ w'.cell? ⟨g3, 1, none⟩ = some (.bool ((rd_T29 l0 x1).f1.f0)) ∧ w'.cell? ⟨g3, 2, none⟩ = some (.string ((rd_T29 l0 x1).f1.f1)) ∧ w'.cell? ⟨g3, 3, none⟩ = some (.string ((rd_T29 l0 x1).f1.f2))) (ds := [9]) zK (fun hHeld => ?_); refine with_tabW I1simple.tab9 I1simple.bits9 (fun HT_ HW_ => ?_)
       generalize wc.drew = w5 at B1 B2 B3 HB hHeld ⊢
       refine pA 1 2 ?_
       refine pA 3 10 ?_
       refine pA 4 26 ?_
       refine pA 5 58 ?_
       refine tA 0 59 hHeld ?_
       refine tA 2 63 hHeld ?_
       refine oA 6 127 fun K hK => ?_
       refine goes_ Tryz.func38 (by kernel_rfl) rfl #[.int .i64 (wrap64 (x5 - j2))] (by rfl) rfl rfl (by (try simp only [List.map_toArray, List.map_cons, List.map_nil]); first | done | (simp only [jh1]; rfl) | rfl | (simp only [List.length_drop, List.length_take]; rfl)) ?_
       with_reducible refine (Q1Int.calls (H := A1.out) ..).mono ?_
       rintro e w6 ⟨rfl, hb⟩
       refine ⟨_, rfl, ?_⟩
       replace B1 := bB B1 hb
       replace B2 := bB B2 hb
       replace B3 := bB B3 hb
       replace HB := sB hb
       (try clear hb)
       refine hK.out _ _ zK (fun hHeld => ?_)
       clear hK K
       refine normA (N := 51) ?_
       refine rcB 7 255 Tryz.func18 (Q1Multiply.calls _ _ _ _ _ _ _ _ _ _ _ A2.out) hHeld br fun w7 hb hHeld => ?_
       refine rcB 8 511 Tryz.func17 (Q1Add.calls _ _ _ _ _ _ _ _ _ _ _ A3.out) hHeld hb fun w8 hb hHeld => ?_
       replace B1 := bB B1 hb
       replace B2 := bB B2 hb
       replace B3 := bB B3 hb
       replace HB := sB hb
       clear hb
       refine last_ (i := 9) (N := none) (lB 10 1023) rfl rfl (one_of HT_.out (by kernel_rfl)) (by decide) (fun K hK => ?_)
       have hs30 := cB B2 0 (.bool x2)
       have hfs30 := fB B2 0
       have hs31 := cB B2 1 (.string x3)
       have hfs31 := fB B2 1
       have hs32 := cB B2 2 (.string x4)
       have hfs32 := fB B2 2
       refine skip_ (w1 := ?_) (by rfl) rfl ?_ ?_
       rotate_left
       ·go_simp
        rfl
       refine hK.out _ _ ?_
       clear hK K
       refine done_ (done_of HT_.out (by kernel_rfl)) ?_
       try go_wp2
       go_roundg kj12
       case measure => have := HK1.out; have := HJ12.out; omega
       case rel => exact ⟨(wrap64 (x1 + 1)), (t7), (t8), (t9), zq1, H', ⟨by have := HK1.out; have := HJ12.out; omega⟩, ⟨bC B1⟩, ⟨bC B2⟩, ⟨zH⟩⟩
      ·have H' := Aside0.mk H
       clear H
       go_wp2
       go_roundg kj12
       case measure => have := HK1.out; have := HJ12.out; omega
       case rel => exact ⟨(wrap64 (x1 + 1)), (x2), (x3), (x4), zq1, H', ⟨by have := HK1.out; have := HJ12.out; omega⟩, ⟨bC B1⟩, ⟨bC B2⟩, ⟨zH⟩⟩
   ·replace ⟨⟨t1, t2, t3⟩, A1, H⟩ := bS H
    (try dsimp only at H)
    replace ⟨⟨t4, t5, t6, t7⟩, A2, H⟩ := bS H
    (try dsimp only at H)
    simp only [Option.some.injEq, Prod.mk.injEq] at H
    obtain ⟨rfl, rfl, rfl⟩ := H
    try go_wp2
    replace B1 := bD B1
    replace B2 := bD B2
    replace HB := hD HB
    refine startC1 10 [] B2 (fun hHeld => ?_); refine with_tabW I1simple.tab11 I1simple.bits11 (fun HT_ HW_ => ?_)
    generalize wr.drew = w4 at B1 B2 HB hHeld ⊢
    refine pA 1 2 ?_
    refine tA 0 3 hHeld ?_
    refine join_ (σ := Nat) 2 #[true, true, true, true, true, true, true, true, false, false] (fun s_ => [(58, .agg #[.bool t1, .string t2, .string t3]), (59, .tuple #[.agg #[.bool t4, .string t5, .string t6], .bool t7]), (14, .pointer (some ⟨s_, 0, none⟩)), (55, .tuple #[.agg #[.bool t4, .string t5, .string t6], .bool t7]), (60, .agg #[.bool t4, .string t5, .string t6]), (61, .bool t7)]) (fun s_ w' => (w'.cell? ⟨g2, 0, none⟩ = some (.bool x2) ∧ w'.cell? ⟨g2, 1, none⟩ = some (.string x3) ∧ w'.cell? ⟨g2, 2, none⟩ = some (.string x4)) ∧ (w'.heap[g1]? = some (.cells #[.bool false, .string (⟨#[]⟩ : ByteArray), .string (⟨#[]⟩ : ByteArray)] 23 (0, 0))) ∧ (w'.heap[g2]? = some (.cells #[.bool x2, .string x3, .string x4] 23 (0, 0))) ∧ (w'.heap[s_]? = some (.cells #[.bool false, .string (⟨#[]⟩ : ByteArray), .string (⟨#[]⟩ : ByteArray)] 23 (0, 0))) ∧ (w.heap.size ≤ s_) ∧ (w.heap.size ≤ s_) ∧ (g1 ≠ s_) ∧ (s_ ≠ g1) ∧ (g2 ≠ s_) ∧ (s_ ≠ g2) ∧ (Below w.heap.size w w')) ?_ ?_
    rotate_left
    ·intro hCont
     refine two_ (i := 2) (j := 7) (Ni := some 58) (Nj := some 14) #[true, true, true, false, false, false, false, false, false, false] #[true, true, false, false, false, false, false, true, false, false] rfl rfl rfl rfl (two_of HT_.out (by kernel_rfl)) (by decide) (by decide) (fun K hK => ?_) (fun K hK => ?_)
     ·skip
      refine goes_ Tryz.func38 (by kernel_rfl) rfl #[.int .i64 a3] (by rfl) rfl rfl zq5 ?_
      with_reducible refine (Q1Int.calls (H := A1.out) ..).mono ?_
      rintro e w5 ⟨rfl, hb⟩
      refine ⟨_, rfl, ?_⟩
      replace B1 := bB B1 hb
      replace B2 := bB B2 hb
      replace HB := sB hb
      (try clear hb)
      refine hK.out _ _ zK (fun hHeld => ?_)
      clear hK K
      refine normA (N := 58) ?_
      refine two_ (i := 3) (j := 7) (Ni := some 59) (Nj := some 14) #[true, true, true, true, false, false, false, false, false, false] #[true, true, true, false, false, false, false, true, false, false] rfl rfl rfl rfl (two_of HT_.out (by kernel_rfl)) (by decide) (by decide) (fun K hK => ?_) (fun K hK => ?_)
      ·skip
       refine goes_ Tryz.func39 (by kernel_rfl) rfl #[.agg #[.bool x2, .string x3, .string x4], .agg #[.bool t1, .string t2, .string t3]] (by rfl) rfl rfl zq5 ?_
       with_reducible refine (Q1Divide.calls (H := A2.out) ..).mono ?_
       rintro e w6 ⟨rfl, hb⟩
       refine ⟨_, rfl, ?_⟩
       replace B1 := bB B1 hb
       replace B2 := bB B2 hb
       replace HB := sB hb
       (try clear hb)
       refine hK.out _ _ zK (fun hHeld => ?_)
       clear hK K
       refine normA (N := 59) ?_
       refine pA 4 31 ?_
       refine pA 5 63 ?_
       refine pA 6 127 ?_
       refine oA 7 255 fun K hK => ?_
       refine box_step ?hg (N := 14) ?hd (cs := #[.bool false, .string (⟨#[]⟩ : ByteArray), .string (⟨#[]⟩ : ByteArray)]) (t := 23) ?hr ?_; (case hd => rfl); (case hg => rfl); (case hr => first | (go_simp; done) | (go_simp; rfl))
       intro g3 hg w7 hbox hb
       have n0_ := bB B1 hb
       have n1_ := bB B2 hb
       have n2_ := sB hb
       have n3_ := Aside0.mk (hbox)
       have n4_ := wE w hg
       have n5_ := wE w hg
       have n6_ := nL B1 hg
       have n7_ := nG B1 hg
       have n8_ := nL B2 hg
       have n9_ := nG B2 hg
       clear B1 B2 HB
       have B1 := n0_
       have B2 := n1_
       have HB := n2_
       have B3 := n3_
       have G3 := n4_
       have E1 := n5_
       have N3 := n6_
       have N4 := n7_
       have N5 := n8_
       have N6 := n9_
       clear n0_ n1_ n2_ n3_ n4_ n5_ n6_ n7_ n8_ n9_ hb hbox hg
       refine hK.out _ _ zK (fun hHeld => ?_)
       clear hK K
       refine normA (N := 14) ?_
       exact norm_ (by simp only [putAll, Act.put, List.setIfInBounds_toArray, List.set_cons_zero, List.set_cons_succ]) (hCont (g3) _ ⟨hHeld, (by (with_reducible repeat (first | refine blk_drewN ?_ _ | refine blk_drew ?_ | refine blk_alloc ?_ _)); exact B1.out), (by (with_reducible repeat (first | refine blk_drewN ?_ _ | refine blk_drew ?_ | refine blk_alloc ?_ _)); exact B2.out), (by (with_reducible repeat (first | refine blk_drewN ?_ _ | refine blk_drew ?_ | refine blk_alloc ?_ _)); exact B3.out), G3.out, E1.out, N3, N4, N5, N6, zH⟩)
      ·skip
       refine box_step ?hg (N := 14) ?hd (cs := #[.bool false, .string (⟨#[]⟩ : ByteArray), .string (⟨#[]⟩ : ByteArray)]) (t := 23) ?hr ?_; (case hd => rfl); (case hg => rfl); (case hr => first | (go_simp; done) | (go_simp; rfl))
       intro g3 hg w6 hbox hb
       have n0_ := bB B1 hb
       have n1_ := bB B2 hb
       have n2_ := sB hb
       have n3_ := Aside0.mk (hbox)
       have n4_ := wE w hg
       have n5_ := wE w hg
       have n6_ := nL B1 hg
       have n7_ := nG B1 hg
       have n8_ := nL B2 hg
       have n9_ := nG B2 hg
       clear B1 B2 HB
       have B1 := n0_
       have B2 := n1_
       have HB := n2_
       have B3 := n3_
       have G3 := n4_
       have E1 := n5_
       have N3 := n6_
       have N4 := n7_
       have N5 := n8_
       have N6 := n9_
       clear n0_ n1_ n2_ n3_ n4_ n5_ n6_ n7_ n8_ n9_ hb hbox hg
       refine hK.out _ _ zK (fun hHeld => ?_)
       clear hK K
       refine normA (N := 14) ?_
       refine rcB 3 143 Tryz.func39 (Q1Divide.calls _ _ _ _ _ _ _ _ _ _ _ _ A2.out) hHeld br fun w7 hb hHeld => ?_
       refine pA 4 159 ?_
       refine pA 5 191 ?_
       refine pA 6 255 ?_
       replace B1 := bB B1 hb
       replace B2 := bB B2 hb
       replace B3 := bB B3 hb
       replace HB := sB hb
       clear hb
       exact norm_ (by simp only [putAll, Act.put, List.setIfInBounds_toArray, List.set_cons_zero, List.set_cons_succ]) (hCont (g3) _ ⟨hHeld, (by (with_reducible repeat (first | refine blk_drewN ?_ _ | refine blk_drew ?_ | refine blk_alloc ?_ _)); exact B1.out), (by (with_reducible repeat (first | refine blk_drewN ?_ _ | refine blk_drew ?_ | refine blk_alloc ?_ _)); exact B2.out), (by (with_reducible repeat (first | refine blk_drewN ?_ _ | refine blk_drew ?_ | refine blk_alloc ?_ _)); exact B3.out), G3.out, E1.out, N3, N4, N5, N6, zH⟩)
     ·skip
      refine box_step ?hg (N := 14) ?hd (cs := #[.bool false, .string (⟨#[]⟩ : ByteArray), .string (⟨#[]⟩ : ByteArray)]) (t := 23) ?hr ?_; (case hd => rfl); (case hg => rfl); (case hr => first | (go_simp; done) | (go_simp; rfl))
      intro g3 hg w5 hbox hb
      have n0_ := bB B1 hb
      have n1_ := bB B2 hb
      have n2_ := sB hb
      have n3_ := Aside0.mk (hbox)
      have n4_ := wE w hg
      have n5_ := wE w hg
      have n6_ := nL B1 hg
      have n7_ := nG B1 hg
      have n8_ := nL B2 hg
      have n9_ := nG B2 hg
      clear B1 B2 HB
      have B1 := n0_
      have B2 := n1_
      have HB := n2_
      have B3 := n3_
      have G3 := n4_
      have E1 := n5_
      have N3 := n6_
      have N4 := n7_
      have N5 := n8_
      have N6 := n9_
      clear n0_ n1_ n2_ n3_ n4_ n5_ n6_ n7_ n8_ n9_ hb hbox hg
      refine hK.out _ _ zK (fun hHeld => ?_)
      clear hK K
      refine normA (N := 14) ?_
      refine rcB 2 135 Tryz.func38 (Q1Int.calls _ _ _ _ _ _ A1.out) hHeld br fun w6 hb hHeld => ?_
      refine rcB 3 143 Tryz.func39 (Q1Divide.calls _ _ _ _ _ _ _ _ _ _ _ _ A2.out) hHeld hb fun w7 hb hHeld => ?_
      refine pA 4 159 ?_
      refine pA 5 191 ?_
      refine pA 6 255 ?_
      replace B1 := bB B1 hb
      replace B2 := bB B2 hb
      replace B3 := bB B3 hb
      replace HB := sB hb
      clear hb
      exact norm_ (by simp only [putAll, Act.put, List.setIfInBounds_toArray, List.set_cons_zero, List.set_cons_succ]) (hCont (g3) _ ⟨hHeld, (by (with_reducible repeat (first | refine blk_drewN ?_ _ | refine blk_drew ?_ | refine blk_alloc ?_ _)); exact B1.out), (by (with_reducible repeat (first | refine blk_drewN ?_ _ | refine blk_drew ?_ | refine blk_alloc ?_ _)); exact B2.out), (by (with_reducible repeat (first | refine blk_drewN ?_ _ | refine blk_drew ?_ | refine blk_alloc ?_ _)); exact B3.out), G3.out, E1.out, N3, N4, N5, N6, zH⟩)
    rintro g3 w5 ⟨hS_, h0_, h1_, h2_, h3_, h4_, h5_, h6_, h7_, h8_, h9_⟩
    have n0_ : Aside0 (w5.heap[g1]? = some (.cells #[.bool false, .string (⟨#[]⟩ : ByteArray), .string (⟨#[]⟩ : ByteArray)] 23 (0, 0))) := ⟨h0_⟩
    have n1_ : Aside0 (w5.heap[g2]? = some (.cells #[.bool x2, .string x3, .string x4] 23 (0, 0))) := ⟨h1_⟩
    have n2_ : Aside0 (w5.heap[g3]? = some (.cells #[.bool false, .string (⟨#[]⟩ : ByteArray), .string (⟨#[]⟩ : ByteArray)] 23 (0, 0))) := ⟨h2_⟩
    have n3_ : Aside0 (w.heap.size ≤ g3) := ⟨h3_⟩
    have n4_ : Aside0 (w.heap.size ≤ g3) := ⟨h4_⟩
    have n5_ := h5_
    have n6_ := h6_
    have n7_ := h7_
    have n8_ := h8_
    have n9_ : Aside0 (Below w.heap.size w w5) := ⟨h9_⟩
    revert n0_ n1_ n2_ n3_ n4_ n5_ n6_ n7_ n8_ n9_
    clear B1 B2 HB h0_ h1_ h2_ h3_ h4_ h5_ h6_ h7_ h8_ h9_
    intro B1 B2 B3 G3 E1 N3 N4 N5 N6 HB
    have hHeld : w5.cell? ⟨g2, 0, none⟩ = some (.bool x2) ∧ w5.cell? ⟨g2, 1, none⟩ = some (.string x3) ∧ w5.cell? ⟨g2, 2, none⟩ = some (.string x4) := hS_
    refine norm_ (a' := ?_) ?_ ?_
    rotate_left
    ·simp only [putAll, Act.put, List.setIfInBounds_toArray, List.set_cons_zero, List.set_cons_succ]
     rfl
    refine one_ (i := 8) (N := none) (lB 10 511) rfl rfl (one_of HT_.out (by kernel_rfl)) (by decide) (fun K hK => ?_)
    have hs40 := cB B3 0 (.bool false)
    have hfs40 := fB B3 0
    have hs41 := cB B3 1 (.string (⟨#[]⟩ : ByteArray))
    have hfs41 := fB B3 1
    have hs42 := cB B3 2 (.string (⟨#[]⟩ : ByteArray))
    have hfs42 := fB B3 2
    refine skip_ (w1 := ?_) (by rfl) rfl ?_ ?_
    rotate_left
    ·go_simp
     rfl
    refine hK.out _ _ zC (fun hHeld => ?_)
    clear hK K
    refine pA 9 1023 ?_
    refine done_ (done_of HT_.out (by kernel_rfl)) ?_
    obtain ⟨_, _, _, _, _, _⟩ := xB3 B3
    obtain ⟨_, _, _, _, _, _⟩ := xB3 B1
    try go_wp2
    refine pR 23 #[.bool t4, .string t5, .string t6] B1 Tryz.underlying23 ?_
    exact ⟨zE, zH⟩
end Go.Proofs.YtggfilmdfpmbmaaGreatDoor.QN
end
section
namespace Go.Proofs.YtggfilmdfpmbmaaGreatDoor.QN
open Go.RowKit Go.Proofs.YtggfilmdfpmbmaaGreatDoorW.PrintWords Go.Proofs.YtggfilmdfpmbmaaGreatDoorW.PrintLast Go.Proofs.YtggfilmdfpmbmaaGreatDoorW.PrintMore
attribute [local go_sem] max2_int min2_int max_two min_two max_three min_three max_four min_four
set_option linter.unusedVariables false
set_option linter.unusedSimpArgs false
attribute [local go_sem high] eqA23
set_option maxHeartbeats 8000000
set_option maxRecDepth 100000
def I1Simple.f (k : Nat) (a0_0 : Bool) (a0_1 a0_2 : ByteArray) (l1 : List (S29)) (a2 a3 a4 : Int) : Option (Bool × ByteArray × ByteArray × Int) := (I1check.f k a0_0 a0_1 a0_2 l1 a2 a3 a4 1).bind fun t793 => (if t793 = 0 then ((I1simple.f k l1 a2 a3 a4).bind fun bt794 => ((Q1Multiply.f k a0_0 a0_1 a0_2 bt794.1 bt794.2.1 bt794.2.2).bind fun bt797 => (some (bt797.1, bt797.2.1, bt797.2.2, 0)))) else (some (false, (⟨#[]⟩ : ByteArray), (⟨#[]⟩ : ByteArray), t793)))
def I1Simple.T4 : Bool × List (List Nat × List Nat) := (true, [([], []), ([], []), ([], []), ([], []), ([], []), ([1, 2, 3, 4], [1, 2, 3, 4]), ([0, 5, 5], [0, 5]), ([6, 6, 0, 1, 2, 3, 4, 5, 6], [6]), ([7, 0, 1, 2, 3, 4, 5, 6, 7], [])])
def I1Simple.B4 : List Nat := [0, 0, 0, 0, 0, 30, 63, 127, 255]
theorem I1Simple.tab4 : rtab .any (opsOf Tryz.f15 4) = I1Simple.T4 := by kernel_rfl
theorem I1Simple.bits4 : waitsOk I1Simple.T4.2 I1Simple.B4 = true := by kernel_rfl
theorem I1Simple.calls (k : Nat) (a0_0 : Bool) (a0_1 a0_2 : ByteArray) (A1 : Option Addr) (c1 : Nat) (l1 : List (S29)) (a2 a3 a4 : Int) (r1 : Bool) (r2 r3 : ByteArray) (r4 : Int) (w : World) (hr1 : Kd.C k29 w A1 l1.length l1) (hc1 : l1.length ≤ c1) (H : I1Simple.f k a0_0 a0_1 a0_2 l1 a2 a3 a4 = some (r1, r2, r3, r4)) :
 Calls Tryz.prog 15 #[.agg #[.bool a0_0, .string a0_1, .string a0_2], .slice A1 l1.length c1, .int .i64 a2, .int .i64 a3, .int .i64 a4] w fun e w' => e = .returned (.tuple #[.agg #[.bool r1, .string r2, .string r3], .int .i64 r4]) ∧ Below w.heap.size w w' := by
 have hu1 := Tryz.underlying23
 have HR1 := Aside0.mk hr1
 have HC1 := Aside0.mk hc1
 clear hr1 hc1
 have HB := Aside0.mk (Below.refl w.heap.size w)
 unfold I1Simple.f at H
 replace ⟨t1, A2, H⟩ := bS H
 replace H := iQ H
 rcases H with ⟨c2b0, c2b1, H⟩ | ⟨c2b0, c2b1, H⟩
 ·replace ⟨⟨t2, t3, t4⟩, A3, H⟩ := bS H
  (try dsimp only at H)
  replace ⟨⟨t5, t6, t7⟩, A4, H⟩ := bS H
  (try dsimp only at H)
  simp only [Option.some.injEq, Prod.mk.injEq] at H
  obtain ⟨rfl, rfl, rfl, rfl⟩ := H
  go_enter Tryz.func15, Tryz.ntmps15
  try go_wp2_with (first | (refine bxA w 5 #[.bool a0_0, .string a0_1, .string a0_2] 23 fun g1 w2 B1 G1 hg hb HB => ?_; clear hb hg) | (refine bxZ w 10 23 fun g2 w3 B2 G2 hg hb HB => ?_; obtain ⟨N1, N2⟩ := nP B1 hg; replace B1 := bB B1 hb; clear hb hg; have m1 := N1; have n1 := N2; obtain ⟨_, _, _, _, _, _⟩ := xB3 B1) | (refine gB 18 Tryz.func16 (I1check.calls _ _ _ _ _ _ _ _ _ _ _ _ _ ?side1 ?side2 A2.out) fun w4 hb HB => ?_; (case side1 => exact sC (Kd.C_below HR1.out HB.out)); (case side2 => exact HC1.out); replace B1 := bB B1 hb; replace B2 := bB B2 hb; clear hb))
  replace B1 := bD B1
  replace B2 := bD B2
  replace HB := hD HB
  refine startC1 9 [] B1 (fun hHeld => ?_); refine with_tabW I1Simple.tab4 I1Simple.bits4 (fun HT_ HW_ => ?_)
  generalize w4.drew = w5 at B1 B2 HB hHeld ⊢
  refine pA 1 2 ?_
  refine pA 2 6 ?_
  refine pA 3 14 ?_
  refine pA 4 30 ?_
  refine tA 0 31 hHeld ?_
  refine oA 5 63 fun K hK => ?_
  refine goes_ Tryz.func19 (by kernel_rfl) rfl #[.slice A1 l1.length c1, .int .i64 a2, .int .i64 a3, .int .i64 a4] (by rfl) rfl rfl zq5 ?_
  with_reducible refine (I1simple.calls (H := A3.out) (hr0 := ?side1) (hc0 := ?side2) ..).mono ?_
  (case side1 => exact sC (Kd.C_below HR1.out HB.out))
  (case side2 => exact HC1.out)
  rintro e w6 ⟨rfl, hb⟩
  refine ⟨_, rfl, ?_⟩
  replace B1 := bB B1 hb
  replace B2 := bB B2 hb
  replace HB := sB hb
  (try clear hb)
  refine hK.out _ _ zK (fun hHeld => ?_)
  clear hK K
  refine normA (N := 28) ?_
  refine rcB 6 127 Tryz.func18 (Q1Multiply.calls _ _ _ _ _ _ _ _ _ _ _ A4.out) hHeld br fun w7 hb hHeld => ?_
  replace B1 := bB B1 hb
  replace B2 := bB B2 hb
  replace HB := sB hb
  clear hb
  refine one_ (i := 7) (N := none) (lB 9 255) rfl rfl (one_of HT_.out (by kernel_rfl)) (by decide) (fun K hK => ?_)
  have hs18 := cB B2 0 (.bool false)
  have hfs18 := fB B2 0
  have hs19 := cB B2 1 (.string (⟨#[]⟩ : ByteArray))
  have hfs19 := fB B2 1
  have hs20 := cB B2 2 (.string (⟨#[]⟩ : ByteArray))
  have hfs20 := fB B2 2
  refine skip_ (w1 := ?_) (by rfl) rfl ?_ ?_
  rotate_left
  ·go_simp
   rfl
  refine hK.out _ _ zC (fun hHeld => ?_)
  clear hK K
  refine pA 8 511 ?_
  refine done_ (done_of HT_.out (by kernel_rfl)) ?_
  try go_wp2
  refine pRt 23 #[.bool t5, .string t6, .string t7] B2 Tryz.underlying23 ?_
  exact ⟨zE, zH⟩
 ·simp only [Option.some.injEq, Prod.mk.injEq] at H
  obtain ⟨rfl, rfl, rfl, rfl⟩ := H
  go_enter Tryz.func15, Tryz.ntmps15
  go_wp2_with (first | (refine bxA w 5 #[.bool a0_0, .string a0_1, .string a0_2] 23 fun g1 w2 B1 G1 hg hb HB => ?_; clear hb hg) | (refine bxZ w 10 23 fun g2 w3 B2 G2 hg hb HB => ?_; obtain ⟨N1, N2⟩ := nP B1 hg; replace B1 := bB B1 hb; clear hb hg; have m1 := N1; have n1 := N2; obtain ⟨_, _, _, _, _, _⟩ := xB3 B1) | (refine gB 18 Tryz.func16 (I1check.calls _ _ _ _ _ _ _ _ _ _ _ _ _ ?side1 ?side2 A2.out) fun w4 hb HB => ?_; (case side1 => exact sC (Kd.C_below HR1.out HB.out)); (case side2 => exact HC1.out); replace B1 := bB B1 hb; replace B2 := bB B2 hb; clear hb; obtain ⟨_, _, _, _, _, _⟩ := xB3 B2))
  refine pRt 23 #[.bool false, .string (⟨#[]⟩ : ByteArray), .string (⟨#[]⟩ : ByteArray)] B2 Tryz.underlying23 ?_
  exact ⟨zE, zH⟩
def I1Compound.l0 : Nat → List (S29) → Int → Int → Int → Int → Bool → ByteArray → ByteArray → Bool → ByteArray → ByteArray → Option (Bool × ByteArray × ByteArray × Int)
 | 0, _, _, _, _, _, _, _, _, _, _, _ => none
 | k + 1, x1, x3, x4, x5, x16, x801000, x801001, x801002, x807000, x807001, x807002 => if x16 < x3 then ((I1simple.f k x1 x16 (mn (wrap64 (x16 + x5)) x3) x4).bind fun bt807 => ((Q1Multiply.f k x807000 x807001 x807002 bt807.1 bt807.2.1 bt807.2.2).bind fun bt810 => ((Q1Add.f k x807000 x807001 x807002 bt810.1 bt810.2.1 bt810.2.2).bind fun bt813 => (I1Compound.l0 k x1 x3 x4 x5 (wrap64 (x16 + x5)) x801000 x801001 x801002 bt813.1 bt813.2.1 bt813.2.2)))) else ((Q1Subtract.f k x807000 x807001 x807002 x801000 x801001 x801002).bind fun bt816 => (some (bt816.1, bt816.2.1, bt816.2.2, 0)))
def I1Compound.f (k : Nat) (a0_0 : Bool) (a0_1 a0_2 : ByteArray) (l1 : List (S29)) (a2 a3 a4 a5 : Int) : Option (Bool × ByteArray × ByteArray × Int) := (I1check.f k a0_0 a0_1 a0_2 l1 a2 a3 a4 a5).bind fun t802 => (if t802 = 0 then (if (mn a5 1048577) = 0 then (none) else (if (wrap64 (Int.tdiv (wrap64 ((wrap64 ((wrap64 (a3 - a2)) + (mn a5 1048577))) - 1)) (mn a5 1048577))) > 64 then (some (false, (⟨#[]⟩ : ByteArray), (⟨#[]⟩ : ByteArray), 2)) else ((Q1Add.f k a0_0 a0_1 a0_2 false (⟨#[]⟩ : ByteArray) (⟨#[]⟩ : ByteArray)).bind fun bt803 => (I1Compound.l0 k l1 a3 a4 (mn a5 1048577) a2 a0_0 a0_1 a0_2 bt803.1 bt803.2.1 bt803.2.2)))) else (some (false, (⟨#[]⟩ : ByteArray), (⟨#[]⟩ : ByteArray), t802)))
def I1Compound.T11 : Bool × List (List Nat × List Nat) := (true, [([], []), ([], []), ([], []), ([], []), ([], []), ([], []), ([4, 5], [4, 5]), ([], []), ([6, 7], [6, 7]), ([], []), ([2, 3, 8, 9], [2, 3, 8, 9]), ([1, 10, 10], [1, 10]), ([0, 11, 11], [0, 11]), ([12, 12, 0, 1, 2, 3, 4, 5, 6, 7, 8, 9, 10, 11, 12], [12])])
def I1Compound.B11 : List Nat := [0, 0, 0, 0, 0, 0, 48, 0, 240, 0, 1020, 2046, 4095, 8191]
theorem I1Compound.tab11 : rtab .any (opsOf Tryz.f9 11) = I1Compound.T11 := by kernel_rfl
theorem I1Compound.bits11 : waitsOk I1Compound.T11.2 I1Compound.B11 = true := by kernel_rfl
theorem I1Compound.calls (k : Nat) (a0_0 : Bool) (a0_1 a0_2 : ByteArray) (A1 : Option Addr) (c1 : Nat) (l1 : List (S29)) (a2 a3 a4 a5 : Int) (r1 : Bool) (r2 r3 : ByteArray) (r4 : Int) (w : World) (hr1 : Kd.C k29 w A1 l1.length l1) (hc1 : l1.length ≤ c1) (H : I1Compound.f k a0_0 a0_1 a0_2 l1 a2 a3 a4 a5 = some (r1, r2, r3, r4)) :
 Calls Tryz.prog 9 #[.agg #[.bool a0_0, .string a0_1, .string a0_2], .slice A1 l1.length c1, .int .i64 a2, .int .i64 a3, .int .i64 a4, .int .i64 a5] w fun e w' => e = .returned (.tuple #[.agg #[.bool r1, .string r2, .string r3], .int .i64 r4]) ∧ Below w.heap.size w w' := by
 have hu1 := Tryz.underlying23
 have HR1 := Aside0.mk hr1
 have HC1 := Aside0.mk hc1
 clear hr1 hc1
 have HB := Aside0.mk (Below.refl w.heap.size w)
 unfold I1Compound.f at H
 replace ⟨t1, A2, H⟩ := bS H
 replace H := iQ H
 rcases H with ⟨c2b0, c2b1, H⟩ | ⟨c2b0, c2b1, H⟩
 ·obtain ⟨j1, jh1⟩ : ∃ j_ : Int, (mn a5 1048577) = j_ := ⟨_, rfl⟩
  first | rw [jh1] at H | simp only [jh1] at H
  (try rw [jh1] at A2)
  (try (have hji9h : j1 ≤ 1048577 := by (rw [← jh1]; unfold mn; (repeat' split) <;> omega)))
  (try (have hji9g : j1 ≤ 64 := by omega))
  have hji9_ : (if 1048577 < a5 then 1048577 else a5) = j1 := jh1
  by_cases c3 : (j1) = 0
  ·rw [if_pos c3] at H
   exact absurd H (by simp)
  ·rw [if_neg c3] at H
   have c3b0 := beq_eq_false_iff_ne.mpr c3
   have c3b1 := bne_iff_ne.mpr c3
   replace H := iL H
   rcases H with ⟨c4b0, H⟩ | ⟨c4b0, H⟩
   ·simp only [Option.some.injEq, Prod.mk.injEq] at H
    obtain ⟨rfl, rfl, rfl, rfl⟩ := H
    go_enter Tryz.func9, Tryz.ntmps9
    go_wp2_with (first | (refine bxA w 6 #[.bool a0_0, .string a0_1, .string a0_2] 23 fun g1 w2 B1 G1 hg hb HB => ?_; clear hb hg) | (refine bxZ w 12 23 fun g2 w3 B2 G2 hg hb HB => ?_; obtain ⟨N1, N2⟩ := nP B1 hg; replace B1 := bB B1 hb; clear hb hg; have m1 := N1; have n1 := N2; obtain ⟨_, _, _, _, _, _⟩ := xB3 B1) | (refine gB 23 Tryz.func16 (I1check.calls _ _ _ _ _ _ _ _ _ _ _ _ _ ?side1 ?side2 A2.out) fun w4 hb HB => ?_; (case side1 => exact sC (Kd.C_below HR1.out HB.out)); (case side2 => exact HC1.out); replace B1 := bB B1 hb; replace B2 := bB B2 hb; clear hb; obtain ⟨_, _, _, _, _, _⟩ := xB3 B2))
    refine pRt 23 #[.bool false, .string (⟨#[]⟩ : ByteArray), .string (⟨#[]⟩ : ByteArray)] B2 Tryz.underlying23 ?_
    exact ⟨zq9, zH⟩
   ·replace ⟨⟨t2, t3, t4⟩, A3, H⟩ := bS H
    (try dsimp only at H)
    have H' := Aside0.mk H
    clear H
    go_enter Tryz.func9, Tryz.ntmps9
    go_wp2_with (first | (refine bxA w 6 #[.bool a0_0, .string a0_1, .string a0_2] 23 fun g1 w2 B1 G1 hg hb HB => ?_; clear hb hg) | (refine bxZ w 12 23 fun g2 w3 B2 G2 hg hb HB => ?_; obtain ⟨N1, N2⟩ := nP B1 hg; replace B1 := bB B1 hb; clear hb hg; have m1 := N1; have n1 := N2; obtain ⟨_, _, _, _, _, _⟩ := xB3 B1) | (refine gB 23 Tryz.func16 (I1check.calls _ _ _ _ _ _ _ _ _ _ _ _ _ ?side1 ?side2 A2.out) fun w4 hb HB => ?_; (case side1 => exact sC (Kd.C_below HR1.out HB.out)); (case side2 => exact HC1.out); replace B1 := bB B1 hb; replace B2 := bB B2 hb; clear hb; obtain ⟨_, _, _, _, _, _⟩ := xB3 B1) | (refine gB 42 Tryz.func17 (Q1Add.calls _ _ _ _ _ _ _ _ _ _ _ A3.out) fun w5 hb HB => ?_; replace B1 := bB B1 hb; replace B2 := bB B2 hb; clear hb) | (refine bxZ w 15 23 fun g3 w6 B3 G3 hg hb HB => ?_; obtain ⟨N3, N4⟩ := nP B1 hg; obtain ⟨N5, N6⟩ := nP B2 hg; replace B1 := bB B1 hb; replace B2 := bB B2 hb; clear hb hg; have m2 := N4; have n2 := N3; have m3 := N6; have n3 := N5; obtain ⟨_, _, _, _, _, _⟩ := xB3 B3))
    go_loopg [16] k (fun kq v1 w' => ∃ (x1 : Int) (x2 : Bool) (x3 : ByteArray) (x4 : ByteArray), v1 = .int .i64 x1 ∧ Aside0 (I1Compound.l0 kq l1 a3 a4 j1 x1 a0_0 a0_1 a0_2 x2 x3 x4 = some (r1, r2, r3, r4)) ∧ Aside0 (kq ≤ k) ∧ Aside0 (w'.heap[g1]? = some (.cells #[.bool a0_0, .string a0_1, .string a0_2] 23 (0, 0))) ∧ Aside0 (w'.heap[g2]? = some (.cells #[.bool false, .string (⟨#[]⟩ : ByteArray), .string (⟨#[]⟩ : ByteArray)] 23 (0, 0))) ∧ Aside0 (w'.heap[g3]? = some (.cells #[.bool x2, .string x3, .string x4] 23 (0, 0))) ∧ Aside0 (Below w.heap.size w w'))
    case atStart => exact ⟨(a2), (t2), (t3), (t4), zq1, H', ⟨Nat.le_refl _⟩, ⟨bC B1⟩, ⟨bC B2⟩, ⟨bC B3⟩, ⟨zH⟩⟩
    case round =>
     clear H'
     obtain ⟨x1, x2, x3, x4, rfl, HA, HK1, B1, B2, B3, HB⟩ := hrel
     cases gk with
     | zero => exact absurd HA.out (by simp [I1Compound.l0])
     | succ k1 =>
      have H := HA.out
      clear HA
      simp only [I1Compound.l0] at H
      replace H := iL H
      rcases H with ⟨c5b0, H⟩ | ⟨c5b0, H⟩
      ·obtain ⟨j2, jh2⟩ : ∃ j_ : Int, (mn (wrap64 (x1 + j1)) a3) = j_ := ⟨_, rfl⟩
       first | rw [jh2] at H | simp only [jh2] at H
       have hji31_ : (if a3 < (wrap64 (x1 + j1)) then a3 else (wrap64 (x1 + j1))) = j2 := jh2
       replace ⟨⟨t5, t6, t7⟩, A4, H⟩ := bS H
       (try dsimp only at H)
       replace ⟨⟨t8, t9, t10⟩, A5, H⟩ := bS H
       (try dsimp only at H)
       replace ⟨⟨t11, t12, t13⟩, A6, H⟩ := bS H
       (try dsimp only at H)
       have H' := Aside0.mk H
       clear H
       try go_wp2
       replace B1 := bD B1
       replace B2 := bD B2
       replace B3 := bD B3
       replace HB := hD HB
       refine startC1 14 [13] B3 (fun hHeld => ?_); refine with_tabW I1Compound.tab11 I1Compound.bits11 (fun HT_ HW_ => ?_)
       generalize wr.drew = w7 at B1 B2 B3 HB hHeld ⊢
       refine pA 2 4 ?_
       refine pA 3 12 ?_
       refine pA 4 28 ?_
       refine pA 5 60 ?_
       refine pA 6 124 ?_
       refine pA 7 252 ?_
       refine pA 8 508 ?_
       refine pA 9 1020 ?_
       refine tA 0 1021 hHeld ?_
       refine tA 1 1023 hHeld ?_
       refine oA 10 2047 fun K hK => ?_
       refine goes_ Tryz.func19 (by kernel_rfl) rfl #[.slice A1 l1.length c1, .int .i64 x1, .int .i64 j2, .int .i64 a4] (by rfl) rfl rfl (by (try simp only [List.map_toArray, List.map_cons, List.map_nil]); first | done | (simp only [jh2]; rfl) | rfl | (simp only [List.length_drop, List.length_take]; rfl)) ?_
       with_reducible refine (I1simple.calls (H := A4.out) (hr0 := ?side1) (hc0 := ?side2) ..).mono ?_
       (case side1 => exact sC (Kd.C_below HR1.out HB.out))
       (case side2 => exact HC1.out)
       rintro e w8 ⟨rfl, hb⟩
       refine ⟨_, rfl, ?_⟩
       replace B1 := bB B1 hb
       replace B2 := bB B2 hb
       replace B3 := bB B3 hb
       replace HB := sB hb
       (try clear hb)
       refine hK.out _ _ zK (fun hHeld => ?_)
       clear hK K
       refine normA (N := 60) ?_
       refine rcB 11 4095 Tryz.func18 (Q1Multiply.calls _ _ _ _ _ _ _ _ _ _ _ A5.out) hHeld br fun w9 hb hHeld => ?_
       refine rcB 12 8191 Tryz.func17 (Q1Add.calls _ _ _ _ _ _ _ _ _ _ _ A6.out) hHeld hb fun w10 hb hHeld => ?_
       replace B1 := bB B1 hb
       replace B2 := bB B2 hb
       replace B3 := bB B3 hb
       replace HB := sB hb
       clear hb
       refine last_ (i := 13) (N := none) (lB 14 16383) rfl rfl (one_of HT_.out (by kernel_rfl)) (by decide) (fun K hK => ?_)
       have hs39 := cB B3 0 (.bool x2)
       have hfs39 := fB B3 0
       have hs40 := cB B3 1 (.string x3)
       have hfs40 := fB B3 1
       have hs41 := cB B3 2 (.string x4)
       have hfs41 := fB B3 2
       refine skip_ (w1 := ?_) (by rfl) rfl ?_ ?_
       rotate_left
       ·go_simp
        rfl
       refine hK.out _ _ ?_
       clear hK K
       refine done_ (done_of HT_.out (by kernel_rfl)) ?_
       try go_wp2
       go_roundg k1
       case measure => have := HK1.out; omega
       case rel => exact ⟨(wrap64 (x1 + j1)), (t11), (t12), (t13), zq15, H', ⟨zq4⟩, ⟨bC B1⟩, ⟨bC B2⟩, ⟨bC B3⟩, ⟨zH⟩⟩
      ·replace ⟨⟨t5, t6, t7⟩, A4, H⟩ := bS H
       (try dsimp only at H)
       simp only [Option.some.injEq, Prod.mk.injEq] at H
       obtain ⟨rfl, rfl, rfl, rfl⟩ := H
       obtain ⟨_, _, _, _, _, _⟩ := xB3 B3
       obtain ⟨_, _, _, _, _, _⟩ := xB3 B1
       go_wp2_with (refine gB 65 Tryz.func20 (Q1Subtract.calls _ _ _ _ _ _ _ _ _ _ _ A4.out) fun w7 hb HB => ?_; replace B1 := bB B1 hb; replace B2 := bB B2 hb; replace B3 := bB B3 hb; clear hb; obtain ⟨_, _, _, _, _, _⟩ := xB3 B2)
       refine pRt 23 #[.bool t5, .string t6, .string t7] B2 Tryz.underlying23 ?_
       exact ⟨zq9, zH⟩
 ·simp only [Option.some.injEq, Prod.mk.injEq] at H
  obtain ⟨rfl, rfl, rfl, rfl⟩ := H
  go_enter Tryz.func9, Tryz.ntmps9
  go_wp2_with (first | (refine bxA w 6 #[.bool a0_0, .string a0_1, .string a0_2] 23 fun g1 w2 B1 G1 hg hb HB => ?_; clear hb hg) | (refine bxZ w 12 23 fun g2 w3 B2 G2 hg hb HB => ?_; obtain ⟨N1, N2⟩ := nP B1 hg; replace B1 := bB B1 hb; clear hb hg; have m1 := N1; have n1 := N2; obtain ⟨_, _, _, _, _, _⟩ := xB3 B1) | (refine gB 23 Tryz.func16 (I1check.calls _ _ _ _ _ _ _ _ _ _ _ _ _ ?side1 ?side2 A2.out) fun w4 hb HB => ?_; (case side1 => exact sC (Kd.C_below HR1.out HB.out)); (case side2 => exact HC1.out); replace B1 := bB B1 hb; replace B2 := bB B2 hb; clear hb; obtain ⟨_, _, _, _, _, _⟩ := xB3 B2))
  refine pRt 23 #[.bool false, .string (⟨#[]⟩ : ByteArray), .string (⟨#[]⟩ : ByteArray)] B2 Tryz.underlying23 ?_
  exact ⟨zE, zH⟩
end Go.Proofs.YtggfilmdfpmbmaaGreatDoor.QN
end
