/-
  Steps and laws behind the statement that the claim's last text proves: the words of the walks, the walks of the Go functions (printed by a program of this session's own, then shortened by one), and what they compute. Conditions: stated at each theorem.
-/
import Derived.Test.YtggfilmdfpmbmaaGreatDoorP0
import Derived.Test.YtggfilmdfpmbmaaGreatDoorP4
section
namespace Go.Proofs.YtggfilmdfpmbmaaGreatDoor.QN
open Go.RowKit Go.Proofs.YtggfilmdfpmbmaaGreatDoorW.PrintWords Go.Proofs.YtggfilmdfpmbmaaGreatDoorW.PrintLast Go.Proofs.YtggfilmdfpmbmaaGreatDoorW.PrintMore
attribute [local go_sem] max2_int min2_int max_two min_two max_three min_three max_four min_four
set_option linter.unusedVariables false
set_option linter.unusedSimpArgs false
theorem info29 : (Tryz.prog.info? 29).map (fun i => (i.zero, i.size, i.bytes)) = some (some (.agg #[(.int .i64 0), (.bool false), (.string ⟨#[]⟩), (.string ⟨#[]⟩)]), 4, 48) := by kernel_rfl
structure S23 where
 f0 : Bool
 f1 : ByteArray
 f2 : ByteArray
def z23 : S23 := ⟨false, (⟨#[]⟩ : ByteArray), (⟨#[]⟩ : ByteArray)⟩
def k23 : Kd S23 := Kd.iso (Kd.pair Kd.bool (Kd.pair Kd.string Kd.string)) (fun x : S23 => (x.f0, x.f1, x.f2))
theorem k23_open {w : World} {x : S23} {cs : List Value} (h : k23.K w x cs) : cs = [.bool x.f0, .string x.f1, .string x.f2] := by
 obtain ⟨_, _, rfl, rfl, ⟨_, _, rfl, rfl, rfl⟩⟩ := h
 exact rfl
theorem k23_mk (w : World) (x : S23)  : k23.K w x [.bool x.f0, .string x.f1, .string x.f2] := ⟨[.bool x.f0], [.string x.f1, .string x.f2], rfl, rfl, ⟨[.string x.f1], [.string x.f2], rfl, rfl, rfl⟩⟩
theorem k23_mkM (w : World) (base : Nat) (ok : Nat → Prop) (x : S23)  : k23.M w base ok x [.bool x.f0, .string x.f1, .string x.f2] := ⟨[.bool x.f0], [.string x.f1, .string x.f2], rfl, rfl, ⟨[.string x.f1], [.string x.f2], rfl, rfl, rfl⟩⟩
structure S29 where
 f0 : Int
 f1 : S23
def z29 : S29 := ⟨(0 : Int), z23⟩
def k29 : Kd S29 := Kd.iso (Kd.pair (Kd.int .i64) k23) (fun x : S29 => (x.f0, x.f1))
theorem k29_open {w : World} {x : S29} {cs : List Value} (h : k29.K w x cs) : cs = [.int .i64 x.f0, .bool x.f1.f0, .string x.f1.f1, .string x.f1.f2] := by
 obtain ⟨_, _, rfl, rfl, s1⟩ := h
 obtain rfl := k23_open s1
 exact rfl
theorem k29_mk (w : World) (x : S29)  : k29.K w x [.int .i64 x.f0, .bool x.f1.f0, .string x.f1.f1, .string x.f1.f2] := ⟨[.int .i64 x.f0], [.bool x.f1.f0, .string x.f1.f1, .string x.f1.f2], rfl, rfl, (k23_mk w x.f1 )⟩
theorem k29_mkM (w : World) (base : Nat) (ok : Nat → Prop) (x : S29)  : k29.M w base ok x [.int .i64 x.f0, .bool x.f1.f0, .string x.f1.f1, .string x.f1.f2] := ⟨[.int .i64 x.f0], [.bool x.f1.f0, .string x.f1.f1, .string x.f1.f2], rfl, rfl, (k23_mkM w base ok x.f1 )⟩
def rd_T29 (xs : List S29) (i : Int) : S29 := xs.getD i.toNat z29
theorem at_T29 {w : World} {A : Option Addr} {n : Nat} {xs : List S29} (h : Kd.C k29 w A n xs) (i : Int) (h0 : 0 ≤ i) (h1 : i < n) : ∃ ad , A = some ad ∧ w.cell? (ad.add (i.toNat * 4)) = some (.int .i64 (rd_T29 xs i).f0) ∧ w.cell? ⟨(ad.add (i.toNat * 4)).block, (ad.add (i.toNat * 4)).off + 1, none⟩ = some (.bool (rd_T29 xs i).f1.f0) ∧ w.cell? ⟨(ad.add (i.toNat * 4)).block, (ad.add (i.toNat * 4)).off + 2, none⟩ = some (.string (rd_T29 xs i).f1.f1) ∧ w.cell? ⟨(ad.add (i.toNat * 4)).block, (ad.add (i.toNat * 4)).off + 3, none⟩ = some (.string (rd_T29 xs i).f1.f2) := by
 obtain ⟨ad, c, e, _, hK, hc0⟩ := Kd.C_get h z29 i h0 h1
 have hc : ∀ j u, c[j]? = some u → w.cell? (ad.add (i.toNat * 4 + j)) = some u := hc0
 obtain rfl := k29_open hK
 exact ⟨ad, e, hc 0 _ rfl, by rw [← add_field _ _ 1 (by omega)]; exact hc 1 _ rfl, by rw [← add_field _ _ 2 (by omega)]; exact hc 2 _ rfl, by rw [← add_field _ _ 3 (by omega)]; exact hc 3 _ rfl⟩
structure S52 where
 f0 : Int
 f1 : Int
def z52 : S52 := ⟨(0 : Int), (0 : Int)⟩
def k52 : Kd S52 := Kd.iso (Kd.pair (Kd.int .u16) (Kd.int .u16)) (fun x : S52 => (x.f0, x.f1))
theorem k52_open {w : World} {x : S52} {cs : List Value} (h : k52.K w x cs) : cs = [.int .u16 x.f0, .int .u16 x.f1] := by
 obtain ⟨_, _, rfl, rfl, rfl⟩ := h
 exact rfl
theorem k52_mk (w : World) (x : S52)  : k52.K w x [.int .u16 x.f0, .int .u16 x.f1] := ⟨[.int .u16 x.f0], [.int .u16 x.f1], rfl, rfl, rfl⟩
def rd_T52 (xs : List S52) (i : Int) : S52 := xs.getD i.toNat z52
theorem at_T52 {w : World} {A : Option Addr} {n : Nat} {xs : List S52} (h : Kd.C k52 w A n xs) (i : Int) (h0 : 0 ≤ i) (h1 : i < n) : ∃ ad , A = some ad ∧ w.cell? (ad.add (i.toNat * 2)) = some (.int .u16 (rd_T52 xs i).f0) ∧ w.cell? ((ad.add (i.toNat * 2)).add 1) = some (.int .u16 (rd_T52 xs i).f1) := by
 obtain ⟨ad, c, e, _, hK, hc0⟩ := Kd.C_get h z52 i h0 h1
 have hc : ∀ j u, c[j]? = some u → w.cell? (ad.add (i.toNat * 2 + j)) = some u := hc0
 obtain rfl := k52_open hK
 exact ⟨ad, e, hc 0 _ rfl, by rw [add_add]; exact hc 1 _ rfl⟩
theorem eqA23 (d : Nat) (w : World) (x0 y0 : Bool) (x1 y1 x2 y2 : ByteArray) :
 (Op.equalIn (d + 2) 23 (.agg #[.bool x0, .string x1, .string x2]) (.agg #[.bool y0, .string y1, .string y2])).run Tryz.prog w = .ok (x0 == y0 && (x1.toList == y1.toList && (x2.toList == y2.toList))) w := by
 refine eqA_of Tryz.underlying23 (by kernel_rfl) ?_
 refine eqf_cons (by rfl) (by go_simp; rfl) (by go_simp; rfl) (by go_simp) ?_
 refine eqf_cons (by rfl) (by go_simp; rfl) (by go_simp; rfl) (by go_simp) ?_
 exact eqf_last (by rfl) (by go_simp; rfl) (by go_simp; rfl) (by go_simp)
end Go.Proofs.YtggfilmdfpmbmaaGreatDoor.QN
end
section
namespace Go.Proofs.YtggfilmdfpmbmaaGreatDoor.QN
open Go.RowKit Go.Proofs.YtggfilmdfpmbmaaGreatDoorW.PrintWords Go.Proofs.YtggfilmdfpmbmaaGreatDoorW.PrintLast Go.Proofs.YtggfilmdfpmbmaaGreatDoorW.PrintMore
attribute [local go_sem] max2_int min2_int max_two min_two max_three min_three max_four min_four
set_option linter.unusedVariables false
set_option linter.unusedSimpArgs false
attribute [local go_sem high] eqA23
set_option maxHeartbeats 8000000
set_option maxRecDepth 100000
def I1isDay.f (a0 : Int) : Option (Bool) := if a0 ≥ 0 then (some (decide (a0 ≤ 1048576))) else (some false)
theorem I1isDay.calls (a0 : Int) (r : Bool) (w : World) (H : I1isDay.f a0 = some r) :
 Calls Tryz.prog 31 #[.int .i64 a0] w fun e w' => e = .returned (.bool r) ∧ Drawn0 w w' := by
 unfold I1isDay.f at H
 replace H := iL H
 rcases H with ⟨c1b0, H⟩ | ⟨c1b0, H⟩
 obtain rfl := sI H
 rotate_left
 obtain rfl := sI H
 rotate_left
 all_goals
  go_enter Tryz.func31, Tryz.ntmps31
  go_wp2
  go_ret
  exact ⟨zq1, zq7⟩
mutual
def I1Check.l0 : Nat → List (S29) → List (S29) → Int → Int → Option (Int)
 | 0, _, _, _, _ => none
 | k + 1, x0, x8, x9, x10 => if x10 < x9 then (if 0 ≤ x10 then (if x10 < (x8.length : Int) then ((I1isDay.f ((rd_T29 x8 x10).f0)).bind fun t761 => (if t761 = true then (if x10 > 0 then (if 0 ≤ (wrap64 (x10 - 1)) then (if (wrap64 (x10 - 1)) < (x0.length : Int) then (I1Check.j1 k x0 x8 x9 x10 (decide (((rd_T29 x8 x10).f0) ≤ ((rd_T29 x0 (wrap64 (x10 - 1))).f0))) ((rd_T29 x8 x10).f0) ((rd_T29 x8 x10).f1.f0) ((rd_T29 x8 x10).f1.f1) ((rd_T29 x8 x10).f1.f2)) else (none)) else (none)) else (I1Check.j1 k x0 x8 x9 x10 false ((rd_T29 x8 x10).f0) ((rd_T29 x8 x10).f1.f0) ((rd_T29 x8 x10).f1.f1) ((rd_T29 x8 x10).f1.f2))) else (some 1))) else (none)) else (none)) else (some 0)
def I1Check.j1 : Nat → List (S29) → List (S29) → Int → Int → Bool → Int → Bool → ByteArray → ByteArray → Option (Int)
 | 0, _, _, _, _, _, _, _, _, _ => none
 | k + 1, x0, x8, x9, x10, x20, x761000, x761001, x761002, x761003 => if x20 = true then (some 15) else ((Q1Sign.f k x761001 x761002 x761003).bind fun t763 => (if t763 < 0 then (some 7) else (I1Check.l0 k x0 x8 x9 (wrap64 (x10 + 1)))))
end
def I1Check.f (k : Nat) (l0 : List (S29)) : Option (Int) := if (l0.length : Int) > 64 then (some 2) else (I1Check.l0 k l0 l0 (l0.length : Int) 0)
theorem I1Check.calls (k : Nat) (A0 : Option Addr) (c0 : Nat) (l0 : List (S29)) (r : Int) (w : World) (hr0 : Kd.C k29 w A0 l0.length l0) (hc0 : l0.length ≤ c0) (H : I1Check.f k l0 = some r) :
 Calls Tryz.prog 30 #[.slice A0 l0.length c0] w fun e w' => e = .returned (.int .i64 r) ∧ Below w.heap.size w w' := by
 have hu1 := Tryz.underlying29
 have hu2 := Tryz.underlying23
 have HR0 := Aside0.mk hr0
 have HC0 := Aside0.mk hc0
 clear hr0 hc0
 have HB := Aside0.mk (Below.refl w.heap.size w)
 unfold I1Check.f at H
 by_cases c1 : (l0.length : Int) > 64
 ·rw [if_pos c1] at H
  have c1b0 := decide_eq_true c1
  have c1b1 : decide (64 < l0.length) = true := decide_eq_true (by omega)
  clear c1
  obtain rfl := sI H
  go_enter Tryz.func30, Tryz.ntmps30
  go_wp2
  repeat (go_quiet (fail); try go_wp2)
  go_ret
  exact ⟨zE, zH⟩
 ·rw [if_neg c1] at H
  have c1b0 := decide_eq_false c1
  have c1b1 : decide (64 < l0.length) = false := decide_eq_false (by omega)
  clear c1
  have H' := Aside0.mk H
  clear H
  go_enter Tryz.func30, Tryz.ntmps30
  go_wp2
  repeat (go_quiet (fail); try go_wp2)
  go_loopg [10] k (fun kq v1 w' => ∃ (x1 : Int), v1 = .int .i64 x1 ∧ Aside0 (I1Check.l0 kq l0 l0 (l0.length : Int) x1 = some r) ∧ Aside0 (kq ≤ k) ∧ Aside0 (Below w.heap.size w w'))
  case atStart => exact ⟨(0), zq1, H', ⟨Nat.le_refl _⟩, ⟨zH⟩⟩
  case round =>
   clear H'
   obtain ⟨x1, rfl, HA, HK1, HB⟩ := hrel
   cases gk with
   | zero => exact absurd HA.out (by simp [I1Check.l0])
   | succ k1 =>
    have H := HA.out
    clear HA
    simp only [I1Check.l0] at H
    replace H := iL H
    rcases H with ⟨c2b0, H⟩ | ⟨c2b0, H⟩
    ·replace ⟨c3b0, H⟩ := iteD H
     replace ⟨c4b0, H⟩ := iteD H
     replace ⟨t1, A1, H⟩ := bS H
     by_cases c5 : t1 = true
     ·subst c5
      rw [if_pos rfl] at H
      have HC8 := Aside0.mk H
      clear H
      have p1 : 0 ≤ (x1 : Int) := of_decide_eq_true zq0
      have q1 : x1 < (l0.length : Int) := of_decide_eq_true zq0
      obtain ⟨ad1, e1, hx1, hx2, hx3, hx4⟩ := at_T29 HR0.out x1 p1 q1
      cases e1
      (try replace hx1 := hM HB hx1)
      (try replace hx2 := hM HB hx2)
      (try replace hx3 := hM HB hx3)
      (try replace hx4 := hM HB hx4)
      replace p1 := eq_true p1
      replace q1 := eq_true q1
      go_upto_region 8 with (first | (refine bxA w 4 #[.int .i64 0, .bool false, .string (⟨#[]⟩ : ByteArray), .string (⟨#[]⟩ : ByteArray)] 29 fun g1 w1 B1 G1 hg hb HB => ?_; clear hb hg; obtain ⟨_, _, _, _, _, _, _, _⟩ := xB4 B1) | (go_at_call 31; (with_reducible refine (I1isDay.calls (H := A1.out) ..).mono ?_); rintro e w' ⟨rfl, ⟨nd, rfl⟩⟩; (try exact dN)))
      repeat (go_quiet (first | (refine bxA w 4 #[.int .i64 0, .bool false, .string (⟨#[]⟩ : ByteArray), .string (⟨#[]⟩ : ByteArray)] 29 fun g1 w1 B1 G1 hg hb HB => ?_; clear hb hg; obtain ⟨_, _, _, _, _, _, _, _⟩ := xB4 B1) | (go_at_call 31; (with_reducible refine (I1isDay.calls (H := A1.out) ..).mono ?_); rintro e w' ⟨rfl, ⟨nd, rfl⟩⟩; (try exact dN))); go_upto_region 8 with (first | (refine bxA w 4 #[.int .i64 0, .bool false, .string (⟨#[]⟩ : ByteArray), .string (⟨#[]⟩ : ByteArray)] 29 fun g1 w1 B1 G1 hg hb HB => ?_; clear hb hg; obtain ⟨_, _, _, _, _, _, _, _⟩ := xB4 B1) | (go_at_call 31; (with_reducible refine (I1isDay.calls (H := A1.out) ..).mono ?_); rintro e w' ⟨rfl, ⟨nd, rfl⟩⟩; (try exact dN))))
      (try simp only [Act.put, List.setIfInBounds_toArray, List.set_cons_zero, List.set_cons_succ])
      go_cut [20] (fun v2 wc => ∃ (kq : Nat) (x2 : Bool), v2 = .bool x2 ∧ Aside0 (I1Check.j1 kq l0 l0 (l0.length : Int) x1 x2 ((rd_T29 l0 x1).f0) ((rd_T29 l0 x1).f1.f0) ((rd_T29 l0 x1).f1.f1) ((rd_T29 l0 x1).f1.f2) = some r) ∧ Aside0 (kq ≤ k1) ∧ Aside0 (wc.heap[g1]? = some (.cells #[.int .i64 ((rd_T29 l0 x1).f0), .bool ((rd_T29 l0 x1).f1.f0), .string ((rd_T29 l0 x1).f1.f1), .string ((rd_T29 l0 x1).f1.f2)] 29 (0, 0))) ∧ Aside0 (Below w.heap.size w wc))
      case first =>
       have H := HC8.out
       clear HC8
       replace H := iL H
       rcases H with ⟨c6b0, H⟩ | ⟨c6b0, H⟩
       ·(first | rw [c6b0] | (simp only [i64_w, i32_w]; rw [c6b0]) | rw [c6b1] | skip)
        obtain ⟨j2, jh1, jh1w⟩ := jI (x1 - 1)
        first | rw [jh1] at H | simp only [jh1] at H
        replace ⟨c7b0, H⟩ := iteD H
        replace ⟨c8b0, H⟩ := iteD H
        have H' := Aside0.mk H
        clear H
        obtain ⟨_, _, _, _, _, _, _, _⟩ := xB4 B1
        have p2 : 0 ≤ ((j2) : Int) := of_decide_eq_true zq0
        have q2 : (j2) < (l0.length : Int) := of_decide_eq_true zq0
        obtain ⟨ad2, e2, hx5, hx6, hx7, hx8⟩ := at_T29 HR0.out (j2) p2 q2
        obtain rfl : ad1 = ad2 := (by injection e2)
        have hn762_0 : ad1.block ≠ g1 := Nat.ne_of_lt (Nat.lt_of_lt_of_le (by have := World.block_lt_of_cell? _ _ hx5; first | rwa [add_block] at this | exact this) G1.out)
        have hn762_1 : ad1.block ≠ g1 := Nat.ne_of_lt (Nat.lt_of_lt_of_le (by have := World.block_lt_of_cell? _ _ hx5; first | rwa [add_block] at this | exact this) G1.out)
        have hn762_2 : ad1.block ≠ g1 := Nat.ne_of_lt (Nat.lt_of_lt_of_le (by have := World.block_lt_of_cell? _ _ hx5; first | rwa [add_block] at this | exact this) G1.out)
        have hn762_3 : ad1.block ≠ g1 := Nat.ne_of_lt (Nat.lt_of_lt_of_le (by have := World.block_lt_of_cell? _ _ hx5; first | rwa [add_block] at this | exact this) G1.out)
        (try replace hx5 := hM HB hx5)
        (try replace hx6 := hM HB hx6)
        (try replace hx7 := hM HB hx7)
        (try replace hx8 := hM HB hx8)
        replace hx5 := (cell_far (p := ⟨g1, 0, none⟩) zq38 (.int .i64 ((rd_T29 l0 x1).f0))).trans hx5
        replace hx6 := (cell_far (p := ⟨g1, 0, none⟩) zq38 (.int .i64 ((rd_T29 l0 x1).f0))).trans hx6
        replace hx7 := (cell_far (p := ⟨g1, 0, none⟩) zq38 (.int .i64 ((rd_T29 l0 x1).f0))).trans hx7
        replace hx8 := (cell_far (p := ⟨g1, 0, none⟩) zq38 (.int .i64 ((rd_T29 l0 x1).f0))).trans hx8
        replace hx5 := (cell_far (p := ⟨g1, 1, none⟩) zq39 (.bool ((rd_T29 l0 x1).f1.f0))).trans hx5
        replace hx6 := (cell_far (p := ⟨g1, 1, none⟩) zq39 (.bool ((rd_T29 l0 x1).f1.f0))).trans hx6
        replace hx7 := (cell_far (p := ⟨g1, 1, none⟩) zq39 (.bool ((rd_T29 l0 x1).f1.f0))).trans hx7
        replace hx8 := (cell_far (p := ⟨g1, 1, none⟩) zq39 (.bool ((rd_T29 l0 x1).f1.f0))).trans hx8
        replace hx5 := (cell_far (p := ⟨g1, 2, none⟩) zq40 (.string ((rd_T29 l0 x1).f1.f1))).trans hx5
        replace hx6 := (cell_far (p := ⟨g1, 2, none⟩) zq40 (.string ((rd_T29 l0 x1).f1.f1))).trans hx6
        replace hx7 := (cell_far (p := ⟨g1, 2, none⟩) zq40 (.string ((rd_T29 l0 x1).f1.f1))).trans hx7
        replace hx8 := (cell_far (p := ⟨g1, 2, none⟩) zq40 (.string ((rd_T29 l0 x1).f1.f1))).trans hx8
        replace hx5 := (cell_far (p := ⟨g1, 3, none⟩) zq41 (.string ((rd_T29 l0 x1).f1.f2))).trans hx5
        replace hx6 := (cell_far (p := ⟨g1, 3, none⟩) zq41 (.string ((rd_T29 l0 x1).f1.f2))).trans hx6
        replace hx7 := (cell_far (p := ⟨g1, 3, none⟩) zq41 (.string ((rd_T29 l0 x1).f1.f2))).trans hx7
        replace hx8 := (cell_far (p := ⟨g1, 3, none⟩) zq41 (.string ((rd_T29 l0 x1).f1.f2))).trans hx8
        (try have yh1 := fun (n_ : Nat) => (show ((((((w1.drewN n_).setCell ⟨g1, 0, none⟩ (.int .i64 ((rd_T29 l0 x1).f0))).setCell ⟨g1, 1, none⟩ (.bool ((rd_T29 l0 x1).f1.f0))).setCell ⟨g1, 2, none⟩ (.string ((rd_T29 l0 x1).f1.f1))).setCell ⟨g1, 3, none⟩ (.string ((rd_T29 l0 x1).f1.f2)))).cell? _ = some _ from hx5))
        (try have yh2 := fun (n_ : Nat) => (show ((((((w1.drewN n_).setCell ⟨g1, 0, none⟩ (.int .i64 ((rd_T29 l0 x1).f0))).setCell ⟨g1, 1, none⟩ (.bool ((rd_T29 l0 x1).f1.f0))).setCell ⟨g1, 2, none⟩ (.string ((rd_T29 l0 x1).f1.f1))).setCell ⟨g1, 3, none⟩ (.string ((rd_T29 l0 x1).f1.f2)))).cell? _ = some _ from hx6))
        (try have yh3 := fun (n_ : Nat) => (show ((((((w1.drewN n_).setCell ⟨g1, 0, none⟩ (.int .i64 ((rd_T29 l0 x1).f0))).setCell ⟨g1, 1, none⟩ (.bool ((rd_T29 l0 x1).f1.f0))).setCell ⟨g1, 2, none⟩ (.string ((rd_T29 l0 x1).f1.f1))).setCell ⟨g1, 3, none⟩ (.string ((rd_T29 l0 x1).f1.f2)))).cell? _ = some _ from hx7))
        (try have yh4 := fun (n_ : Nat) => (show ((((((w1.drewN n_).setCell ⟨g1, 0, none⟩ (.int .i64 ((rd_T29 l0 x1).f0))).setCell ⟨g1, 1, none⟩ (.bool ((rd_T29 l0 x1).f1.f0))).setCell ⟨g1, 2, none⟩ (.string ((rd_T29 l0 x1).f1.f1))).setCell ⟨g1, 3, none⟩ (.string ((rd_T29 l0 x1).f1.f2)))).cell? _ = some _ from hx8))
        clear hn762_0 hn762_1 hn762_2 hn762_3
        replace p2 := eq_true p2
        replace q2 := eq_true q2
        go_wp2
        repeat (go_quiet (fail); try go_wp2)
        go_meet
        case rel => exact ⟨_, (decide (((rd_T29 l0 x1).f0) ≤ ((rd_T29 l0 (j2)).f0))), zq15, H', ⟨zq12⟩, ⟨bC B1⟩, ⟨zH⟩⟩
       ·(first | rw [c6b0] | (simp only [i64_w, i32_w]; rw [c6b0]) | rw [c6b1] | skip)
        have H' := Aside0.mk H
        clear H
        go_wp2
        repeat (go_quiet (fail); try go_wp2)
        go_meet
        case rel => exact ⟨_, (false), zq1, H', ⟨zq12⟩, ⟨bC B1⟩, ⟨zH⟩⟩
      case rest =>
       clear HC8
       obtain ⟨kq, x2, rfl, HA, HJ7, B1, HB⟩ := hcut
       cases kq with
       | zero => exact absurd HA.out (by simp [I1Check.j1])
       | succ kj7 =>
        have H := HA.out
        clear HA
        simp only [I1Check.j1] at H
        by_cases c7 : x2 = true
        ·subst c7
         rw [if_pos rfl] at H
         obtain rfl := sI H
         go_wp2
         repeat (go_quiet (fail); try go_wp2)
         go_ret
         exact ⟨zE, zH⟩
        ·replace c7 := Bool.eq_false_iff.mpr c7
         subst c7
         rw [if_neg (show ¬ (false = true) by decide)] at H
         replace ⟨t2, A2, H⟩ := bS H
         replace H := iL H
         rcases H with ⟨c8b0, H⟩ | ⟨c8b0, H⟩
         obtain rfl := sI H
         obtain ⟨_, _, _, _, _, _, _, _⟩ := xB4 B1
         rotate_left
         have H' := Aside0.mk H
         clear H
         obtain ⟨_, _, _, _, _, _, _, _⟩ := xB4 B1
         rotate_left
         all_goals
          go_wp2_with (go_at_call 32; (with_reducible refine (Q1Sign.calls (H := A2.out) ..).mono ?_); rintro e w2 ⟨rfl, hb⟩; replace B1 := bB B1 hb; replace HB := sB hb; (try clear hb))
          repeat (go_quiet ((go_at_call 32; (with_reducible refine (Q1Sign.calls (H := A2.out) ..).mono ?_); rintro e w2 ⟨rfl, hb⟩; replace B1 := bB B1 hb; replace HB := sB hb; (try clear hb))); try go_wp2_with (go_at_call 32; (with_reducible refine (Q1Sign.calls (H := A2.out) ..).mono ?_); rintro e w2 ⟨rfl, hb⟩; replace B1 := bB B1 hb; replace HB := sB hb; (try clear hb)))
         ·go_ret
          exact ⟨zE, zH⟩
         ·go_roundg kj7
          case measure => have := HK1.out; have := HJ7.out; omega
          case rel => exact ⟨(wrap64 (x1 + 1)), zq1, H', ⟨by have := HK1.out; have := HJ7.out; omega⟩, ⟨zH⟩⟩
     ·replace c5 := Bool.eq_false_iff.mpr c5
      subst c5
      rw [if_neg (show ¬ (false = true) by decide)] at H
      obtain rfl := sI H
      have p1 : 0 ≤ (x1 : Int) := of_decide_eq_true zq0
      have q1 : x1 < (l0.length : Int) := of_decide_eq_true zq0
      obtain ⟨ad1, e1, hx1, hx2, hx3, hx4⟩ := at_T29 HR0.out x1 p1 q1
      cases e1
      (try replace hx1 := hM HB hx1)
      (try replace hx2 := hM HB hx2)
      (try replace hx3 := hM HB hx3)
      (try replace hx4 := hM HB hx4)
      replace p1 := eq_true p1
      replace q1 := eq_true q1
      go_wp2_with (first | (refine bxA w 4 #[.int .i64 0, .bool false, .string (⟨#[]⟩ : ByteArray), .string (⟨#[]⟩ : ByteArray)] 29 fun g1 w1 B1 G1 hg hb HB => ?_; clear hb hg; obtain ⟨_, _, _, _, _, _, _, _⟩ := xB4 B1) | (go_at_call 31; (with_reducible refine (I1isDay.calls (H := A1.out) ..).mono ?_); rintro e w' ⟨rfl, ⟨nd, rfl⟩⟩; (try exact dN)))
      repeat (go_quiet (first | (refine bxA w 4 #[.int .i64 0, .bool false, .string (⟨#[]⟩ : ByteArray), .string (⟨#[]⟩ : ByteArray)] 29 fun g1 w1 B1 G1 hg hb HB => ?_; clear hb hg; obtain ⟨_, _, _, _, _, _, _, _⟩ := xB4 B1) | (go_at_call 31; (with_reducible refine (I1isDay.calls (H := A1.out) ..).mono ?_); rintro e w' ⟨rfl, ⟨nd, rfl⟩⟩; (try exact dN))); try go_wp2_with (first | (refine bxA w 4 #[.int .i64 0, .bool false, .string (⟨#[]⟩ : ByteArray), .string (⟨#[]⟩ : ByteArray)] 29 fun g1 w1 B1 G1 hg hb HB => ?_; clear hb hg; obtain ⟨_, _, _, _, _, _, _, _⟩ := xB4 B1) | (go_at_call 31; (with_reducible refine (I1isDay.calls (H := A1.out) ..).mono ?_); rintro e w' ⟨rfl, ⟨nd, rfl⟩⟩; (try exact dN))))
      go_ret
      exact ⟨zE, zH⟩
    ·obtain rfl := sI H
     go_wp2
     repeat (go_quiet (fail); try go_wp2)
     go_ret
     exact ⟨zE, zH⟩
def I1check.j0 : Nat → Int → Int → Bool → Bool → ByteArray → ByteArray → Option (Int)
 | 0, _, _, _, _, _, _ => none
 | k + 1, x2, x3, x20, x765000, x765001, x765002 => if x20 = true then (some 1) else (if x3 < x2 then (some 15) else ((Q1Sign.f k x765000 x765001 x765002).bind fun t768 => (if t768 < 0 then (some 7) else (some 0))))
def I1check.f (k : Nat) (a0_0 : Bool) (a0_1 a0_2 : ByteArray) (l1 : List (S29)) (a2 a3 a4 a5 : Int) : Option (Int) := (I1Check.f k l1).bind fun t765 => (if t765 = 0 then ((I1isDay.f a2).bind fun t766 => (if t766 = true then ((I1isDay.f a3).bind fun t767 => (if t767 = true then (if a4 = 360 then (I1check.j0 k a2 a3 (decide (a5 < 1)) a0_0 a0_1 a0_2) else (if a4 = 365 then (I1check.j0 k a2 a3 (decide (a5 < 1)) a0_0 a0_1 a0_2) else (I1check.j0 k a2 a3 true a0_0 a0_1 a0_2))) else (I1check.j0 k a2 a3 true a0_0 a0_1 a0_2))) else (I1check.j0 k a2 a3 true a0_0 a0_1 a0_2))) else (some t765))
theorem I1check.calls (k : Nat) (a0_0 : Bool) (a0_1 a0_2 : ByteArray) (A1 : Option Addr) (c1 : Nat) (l1 : List (S29)) (a2 a3 a4 a5 r : Int) (w : World) (hr1 : Kd.C k29 w A1 l1.length l1) (hc1 : l1.length ≤ c1) (H : I1check.f k a0_0 a0_1 a0_2 l1 a2 a3 a4 a5 = some r) :
 Calls Tryz.prog 16 #[.agg #[.bool a0_0, .string a0_1, .string a0_2], .slice A1 l1.length c1, .int .i64 a2, .int .i64 a3, .int .i64 a4, .int .i64 a5] w fun e w' => e = .returned (.int .i64 r) ∧ Below w.heap.size w w' := by
 have hu1 := Tryz.underlying23
 have HR1 := Aside0.mk hr1
 have HC1 := Aside0.mk hc1
 clear hr1 hc1
 have HB := Aside0.mk (Below.refl w.heap.size w)
 unfold I1check.f at H
 replace ⟨t1, A2, H⟩ := bS H
 replace H := iQ H
 rcases H with ⟨c2b0, c2b1, H⟩ | ⟨c2b0, c2b1, H⟩
 ·have HC9 := Aside0.mk H
  clear H
  go_enter Tryz.func16, Tryz.ntmps16
  go_upto_region 4 with (first | (refine bxA w 6 #[.bool a0_0, .string a0_1, .string a0_2] 23 fun g1 w1 B1 G1 hg hb HB => ?_; clear hb hg) | (refine gB 15 Tryz.func30 (I1Check.calls k _ _ l1 t1 _ ?side1 ?side2 A2.out) fun w2 hb HB => ?_; (case side1 => exact sC (Kd.C_below HR1.out HB.out)); (case side2 => exact HC1.out); replace B1 := bB B1 hb; clear hb))
  (try simp only [Act.put, List.setIfInBounds_toArray, List.set_cons_zero, List.set_cons_succ])
  go_cut [20] (fun v1 wc => ∃ (kq : Nat) (x1 : Bool), v1 = .bool x1 ∧ Aside0 (I1check.j0 kq a2 a3 x1 a0_0 a0_1 a0_2 = some r) ∧ Aside0 (kq ≤ k) ∧ Aside0 (wc.heap[g1]? = some (.cells #[.bool a0_0, .string a0_1, .string a0_2] 23 (0, 0))) ∧ Aside0 (Below w.heap.size w wc))
  case first =>
   have H := HC9.out
   clear HC9
   replace ⟨t2, A3, H⟩ := bS H
   by_cases c3 : t2 = true
   ·subst c3
    rw [if_pos rfl] at H
    replace ⟨t3, A4, H⟩ := bS H
    by_cases c4 : t3 = true
    ·subst c4
     rw [if_pos rfl] at H
     replace H := iQ H
     rcases H with ⟨c5b0, c5b1, H⟩ | ⟨c5b0, c5b1, H⟩
     (first | rw [c5b0] | (simp only [i64_w, i32_w]; rw [c5b0]) | rw [c5b1] | skip)
     have H' := Aside0.mk H
     clear H
     rotate_left
     (first | rw [c5b0] | (simp only [i64_w, i32_w]; rw [c5b0]) | rw [c5b1] | skip)
     replace H := iQ H
     rcases H with ⟨c6b0, c6b1, H⟩ | ⟨c6b0, c6b1, H⟩
     have H' := Aside0.mk H
     clear H
     rotate_left
     have H' := Aside0.mk H
     clear H
     rotate_left
     all_goals
      go_wp2_with (first | (refine gD 22 Tryz.func31 (I1isDay.calls a2 true _ A3.out) fun nd => ?_) | (go_at_call 31; (with_reducible refine (I1isDay.calls a3 true _ A4.out).mono ?_); rintro e w' ⟨rfl, ⟨nd, rfl⟩⟩))
      go_meet
     ·case rel => exact ⟨_, (decide (a5 < 1)), zq1, H', ⟨zq6⟩, ⟨bC B1⟩, ⟨zH⟩⟩
     ·case rel => exact ⟨_, (decide (a5 < 1)), zq1, H', ⟨zq6⟩, ⟨bC B1⟩, ⟨zH⟩⟩
     ·case rel => exact ⟨_, (true), zq1, H', ⟨zq6⟩, ⟨bC B1⟩, ⟨zH⟩⟩
    ·replace c4 := Bool.eq_false_iff.mpr c4
     subst c4
     rw [if_neg (show ¬ (false = true) by decide)] at H
     have H' := Aside0.mk H
     clear H
     go_wp2_with (first | (refine gD 22 Tryz.func31 (I1isDay.calls a2 true _ A3.out) fun nd => ?_) | (go_at_call 31; (with_reducible refine (I1isDay.calls (H := A4.out) ..).mono ?_); rintro e w' ⟨rfl, ⟨nd, rfl⟩⟩))
     go_meet
     case rel => exact ⟨_, (true), zq1, H', ⟨zq6⟩, ⟨bC B1⟩, ⟨zH⟩⟩
   ·replace c3 := Bool.eq_false_iff.mpr c3
    subst c3
    rw [if_neg (show ¬ (false = true) by decide)] at H
    have H' := Aside0.mk H
    clear H
    go_wp2_with (refine gD 22 Tryz.func31 (I1isDay.calls _ _ _ A3.out) fun nd => ?_)
    go_meet
    case rel => exact ⟨_, (true), zq1, H', ⟨zq6⟩, ⟨bC B1⟩, ⟨zH⟩⟩
  case rest =>
   clear HC9
   obtain ⟨kq, x1, rfl, HA, HJ8, B1, HB⟩ := hcut
   cases kq with
   | zero => exact absurd HA.out (by simp [I1check.j0])
   | succ kj8 =>
    have H := HA.out
    clear HA
    simp only [I1check.j0] at H
    by_cases c4 : x1 = true
    ·subst c4
     rw [if_pos rfl] at H
     obtain rfl := sI H
     go_wp2
     go_ret
     exact ⟨zE, zH⟩
    ·replace c4 := Bool.eq_false_iff.mpr c4
     subst c4
     rw [if_neg (show ¬ (false = true) by decide)] at H
     replace H := iL H
     rcases H with ⟨c5b0, H⟩ | ⟨c5b0, H⟩
     ·obtain rfl := sI H
      go_wp2
      go_ret
      exact ⟨zE, zH⟩
     ·replace ⟨t3, A4, H⟩ := bS H
      replace H := iL H
      rcases H with ⟨c6b0, H⟩ | ⟨c6b0, H⟩
      obtain rfl := sI H
      obtain ⟨_, _, _, _, _, _⟩ := xB3 B1
      rotate_left
      obtain rfl := sI H
      obtain ⟨_, _, _, _, _, _⟩ := xB3 B1
      rotate_left
      all_goals
       go_wp2_with (refine gB 47 Tryz.func32 (Q1Sign.calls _ _ _ _ _ _ A4.out) fun w3 hb HB => ?_; replace B1 := bB B1 hb; clear hb)
       go_ret
       exact ⟨zE, zH⟩
 ·obtain rfl := sI H
  go_enter Tryz.func16, Tryz.ntmps16
  go_wp2_with (first | (refine bxA w 6 #[.bool a0_0, .string a0_1, .string a0_2] 23 fun g1 w1 B1 G1 hg hb HB => ?_; clear hb hg) | (refine gB 15 Tryz.func30 (I1Check.calls k _ _ l1 t1 _ ?side1 ?side2 A2.out) fun w2 hb HB => ?_; (case side1 => exact sC (Kd.C_below HR1.out HB.out)); (case side2 => exact HC1.out); replace B1 := bB B1 hb; clear hb))
  go_ret
  exact ⟨zE, zH⟩
end Go.Proofs.YtggfilmdfpmbmaaGreatDoor.QN
end
