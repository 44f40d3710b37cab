/-
  Steps and laws behind the statement that the claim's last text proves: the words of the walks, the walks of the Go functions (printed by a program of this session's own, then shortened by one), and what they compute. Conditions: stated at each theorem.
-/
import Derived.Test.YtggfilmdfpmbmaaGreatDoorP1
import Derived.Test.YtggfilmdfpmbmaaGreatDoorP2
import Derived.Test.YtggfilmdfpmbmaaGreatDoorP0
section
namespace Go.Proofs.YtggfilmdfpmbmaaGreatDoor.QN
open Go.RowKit Go.Proofs.YtggfilmdfpmbmaaGreatDoorW.PrintWords Go.Proofs.YtggfilmdfpmbmaaGreatDoorW.PrintLast Go.Proofs.YtggfilmdfpmbmaaGreatDoorW.PrintMore
attribute [local go_sem] max2_int min2_int max_two min_two max_three min_three max_four min_four
set_option linter.unusedVariables false
set_option linter.unusedSimpArgs false
set_option maxHeartbeats 8000000
set_option maxRecDepth 100000
def Q1Valid.j0 : Nat → Bool → Bool → ByteArray → ByteArray → Option (Bool)
 | 0, _, _, _, _ => none
 | k + 1, x16, x482000, x482001, x482002 => if x16 = true then (some false) else (if x482001.toList = ([] : List UInt8) then (if x482000 = true then (some false) else (some (x482002.toList == ([] : List UInt8)))) else (if x482002.toList = ([] : List UInt8) then (some true) else (if x482002.toList = ([1] : List UInt8) then (some false) else ((N1GCD.f k x482001 x482002).bind fun t484 => (some (t484.toList == ([1] : List UInt8)))))))
def Q1Valid.f (k : Nat) (a0_0 : Bool) (a0_1 a0_2 : ByteArray) : Option (Bool) := (N1Normalize.f k a0_1).bind fun t482 => (if t482.toList = a0_1.toList then ((N1Normalize.f k a0_2).bind fun t483 => (Q1Valid.j0 k (t483.toList != a0_2.toList) a0_0 a0_1 a0_2)) else (Q1Valid.j0 k true a0_0 a0_1 a0_2))
theorem Q1Valid.calls (k : Nat) (a0_0 : Bool) (a0_1 a0_2 : ByteArray) (r : Bool) (w : World) (H : Q1Valid.f k a0_0 a0_1 a0_2 = some r) :
 Calls Tryz.prog 59 #[.agg #[.bool a0_0, .string a0_1, .string a0_2]] w fun e w' => e = .returned (.bool r) ∧ Below w.heap.size w w' := by
 have hu1 := Tryz.underlying23
 have HB := Aside0.mk (Below.refl w.heap.size w)
 unfold Q1Valid.f at H
 have HC2 := Aside0.mk H
 clear H
 go_enter Tryz.func59, Tryz.ntmps59
 go_upto_region 1 with (refine bxA w 1 #[.bool a0_0, .string a0_1, .string a0_2] 23 fun g1 w1 B1 G1 hg hb HB => ?_; clear hb hg)
 repeat (go_quiet ((refine bxA w 1 #[.bool a0_0, .string a0_1, .string a0_2] 23 fun g1 w1 B1 G1 hg hb HB => ?_; clear hb hg)); go_upto_region 1 with (refine bxA w 1 #[.bool a0_0, .string a0_1, .string a0_2] 23 fun g1 w1 B1 G1 hg hb HB => ?_; clear hb hg))
 (try simp only [Act.put, List.setIfInBounds_toArray, List.set_cons_zero, List.set_cons_succ])
 go_cut [16] (fun v1 wc => ∃ (kq : Nat) (x1 : Bool), v1 = .bool x1 ∧ Aside0 (Q1Valid.j0 kq x1 a0_0 a0_1 a0_2 = some r) ∧ Aside0 (kq ≤ k) ∧ Aside0 (wc.heap[g1]? = some (.cells #[.bool a0_0, .string a0_1, .string a0_2] 23 (0, 0))) ∧ Aside0 (Below w.heap.size w wc))
 case first =>
  have H := HC2.out
  clear HC2
  replace ⟨t1, A1, H⟩ := bS H
  replace H := iQ H
  rcases H with ⟨c1b0, c1b1, H⟩ | ⟨c1b0, c1b1, H⟩
  ·(first | rw [c1b0] | (simp only [i64_w, i32_w]; rw [c1b0]) | rw [c1b1] | skip)
   replace ⟨t2, A2, H⟩ := bS H
   have H' := Aside0.mk H
   clear H
   obtain ⟨_, _, _, _, _, _⟩ := xB3 B1
   go_wp2_with (first | (go_at_call 60; (with_reducible refine (N1Normalize.calls (H := A1.out) ..).mono ?_); rintro e w' ⟨rfl, ⟨nd, rfl⟩⟩; (try exact dN)) | (go_at_call 60; (with_reducible refine (N1Normalize.calls (H := A2.out) ..).mono ?_); rintro e w' ⟨rfl, ⟨nd, rfl⟩⟩; (try exact dN)))
   repeat (go_quiet (first | (go_at_call 60; (with_reducible refine (N1Normalize.calls (H := A1.out) ..).mono ?_); rintro e w' ⟨rfl, ⟨nd, rfl⟩⟩; (try exact dN)) | (go_at_call 60; (with_reducible refine (N1Normalize.calls (H := A2.out) ..).mono ?_); rintro e w' ⟨rfl, ⟨nd, rfl⟩⟩; (try exact dN))); try go_wp2_with (first | (go_at_call 60; (with_reducible refine (N1Normalize.calls (H := A1.out) ..).mono ?_); rintro e w' ⟨rfl, ⟨nd, rfl⟩⟩; (try exact dN)) | (go_at_call 60; (with_reducible refine (N1Normalize.calls (H := A2.out) ..).mono ?_); rintro e w' ⟨rfl, ⟨nd, rfl⟩⟩; (try exact dN))))
   go_meet
   case rel => exact ⟨_, ((t2.toList != a0_2.toList)), zq1, H', ⟨zq6⟩, ⟨bC B1⟩, ⟨zH⟩⟩
  ·(first | rw [c1b0] | (simp only [i64_w, i32_w]; rw [c1b0]) | rw [c1b1] | skip)
   have H' := Aside0.mk H
   clear H
   obtain ⟨_, _, _, _, _, _⟩ := xB3 B1
   go_wp2_with (go_at_call 60; (with_reducible refine (N1Normalize.calls (H := A1.out) ..).mono ?_); rintro e w' ⟨rfl, ⟨nd, rfl⟩⟩; (try exact dN))
   repeat (go_quiet ((go_at_call 60; (with_reducible refine (N1Normalize.calls (H := A1.out) ..).mono ?_); rintro e w' ⟨rfl, ⟨nd, rfl⟩⟩; (try exact dN))); try go_wp2_with (go_at_call 60; (with_reducible refine (N1Normalize.calls (H := A1.out) ..).mono ?_); rintro e w' ⟨rfl, ⟨nd, rfl⟩⟩; (try exact dN)))
   go_meet
   case rel => exact ⟨_, (true), zq1, H', ⟨zq6⟩, ⟨bC B1⟩, ⟨zH⟩⟩
 case rest =>
  clear HC2
  obtain ⟨kq, x1, rfl, HA, HJ1, B1, HB⟩ := hcut
  cases kq with
  | zero => exact absurd HA.out (by simp [Q1Valid.j0])
  | succ kj1 =>
   have H := HA.out
   clear HA
   simp only [Q1Valid.j0] at H
   by_cases c2 : x1 = true
   ·subst c2
    rw [if_pos rfl] at H
    obtain rfl := sI H
    go_wp2
    repeat (go_quiet (fail); try go_wp2)
    go_ret
    exact ⟨zE, zH⟩
   ·replace c2 := Bool.eq_false_iff.mpr c2
    subst c2
    rw [if_neg (show ¬ (false = true) by decide)] at H
    replace H := iQ H
    rcases H with ⟨c3b0, c3b1, H⟩ | ⟨c3b0, c3b1, H⟩
    ·by_cases c4 : a0_0 = true
     ·subst c4
      rw [if_pos rfl] at H
      obtain rfl := sI H
      obtain ⟨_, _, _, _, _, _⟩ := xB3 B1
      go_wp2
      repeat (go_quiet (fail); try go_wp2)
      go_ret
      exact ⟨zE, zH⟩
     ·replace c4 := Bool.eq_false_iff.mpr c4
      subst c4
      rw [if_neg (show ¬ (false = true) by decide)] at H
      obtain rfl := sI H
      obtain ⟨_, _, _, _, _, _⟩ := xB3 B1
      go_wp2
      repeat (go_quiet (fail); try go_wp2)
      go_ret
      exact ⟨zE, zH⟩
    ·replace H := iQ H
     rcases H with ⟨c4b0, c4b1, H⟩ | ⟨c4b0, c4b1, H⟩
     ·obtain rfl := sI H
      obtain ⟨_, _, _, _, _, _⟩ := xB3 B1
      go_wp2
      repeat (go_quiet (fail); try go_wp2)
      go_ret
      exact ⟨zE, zH⟩
     ·replace H := iQ H
      rcases H with ⟨c5b0, c5b1, H⟩ | ⟨c5b0, c5b1, H⟩
      ·obtain rfl := sI H
       obtain ⟨_, _, _, _, _, _⟩ := xB3 B1
       go_wp2
       repeat (go_quiet (fail); try go_wp2)
       go_ret
       exact ⟨zE, zH⟩
      ·replace ⟨t2, A2, H⟩ := bS H
       obtain rfl := sI H
       obtain ⟨_, _, _, _, _, _⟩ := xB3 B1
       go_wp2_with (go_at_call 61; (with_reducible refine (N1GCD.calls (H := A2.out) ..).mono ?_); rintro e w2 ⟨rfl, hb⟩; replace B1 := bB B1 hb; replace HB := sB hb; (try clear hb))
       repeat (go_quiet ((go_at_call 61; (with_reducible refine (N1GCD.calls (H := A2.out) ..).mono ?_); rintro e w2 ⟨rfl, hb⟩; replace B1 := bB B1 hb; replace HB := sB hb; (try clear hb))); try go_wp2_with (go_at_call 61; (with_reducible refine (N1GCD.calls (H := A2.out) ..).mono ?_); rintro e w2 ⟨rfl, hb⟩; replace B1 := bB B1 hb; replace HB := sB hb; (try clear hb)))
       go_ret
       exact ⟨zE, zH⟩
def Q1clean.f (k : Nat) (a0_0 : Bool) (a0_1 a0_2 : ByteArray) : Option (Bool × ByteArray × ByteArray) := (Q1Valid.f k a0_0 a0_1 a0_2).bind fun t487 => (if t487 = true then (some (a0_0, a0_1, a0_2)) else (some (false, (⟨#[]⟩ : ByteArray), (⟨#[]⟩ : ByteArray))))
theorem Q1clean.calls (k : Nat) (a0_0 : Bool) (a0_1 a0_2 : ByteArray) (r1 : Bool) (r2 r3 : ByteArray) (w : World) (H : Q1clean.f k a0_0 a0_1 a0_2 = some (r1, r2, r3)) :
 Calls Tryz.prog 34 #[.agg #[.bool a0_0, .string a0_1, .string a0_2]] w fun e w' => e = .returned (.agg #[.bool r1, .string r2, .string r3]) ∧ Below w.heap.size w w' := by
 have hu1 := Tryz.underlying23
 have HB := Aside0.mk (Below.refl w.heap.size w)
 unfold Q1clean.f at H
 replace ⟨t1, A1, H⟩ := bS H
 by_cases c1 : t1 = true
 ·subst c1
  rw [if_pos rfl] at H
  simp only [Option.some.injEq, Prod.mk.injEq] at H
  obtain ⟨rfl, rfl, rfl⟩ := H
  go_enter Tryz.func34, Tryz.ntmps34
  go_wp2_with (first | (refine bxA w 1 #[.bool a0_0, .string a0_1, .string a0_2] 23 fun g1 w1 B1 G1 hg hb HB => ?_; clear hb hg) | (refine bxZ w 2 23 fun g2 w2 B2 G2 hg hb HB => ?_; obtain ⟨N1, N2⟩ := nP B1 hg; replace B1 := bB B1 hb; clear hb hg; have m1 := N1; have n1 := N2; obtain ⟨_, _, _, _, _, _⟩ := xB3 B1) | (refine gB 4 Tryz.func59 (Q1Valid.calls _ _ _ _ _ _ A1.out) fun w3 hb HB => ?_; replace B1 := bB B1 hb; replace B2 := bB B2 hb; clear hb; obtain ⟨_, _, _, _, _, _⟩ := xB3 B1; obtain ⟨_, _, _, _, _, _⟩ := xB3 B2))
  refine pR 23 #[.bool a0_0, .string a0_1, .string a0_2] B2 Tryz.underlying23 ?_
  exact ⟨zE, zH⟩
 ·replace c1 := Bool.eq_false_iff.mpr c1
  subst c1
  rw [if_neg (show ¬ (false = true) by decide)] at H
  simp only [Option.some.injEq, Prod.mk.injEq] at H
  obtain ⟨rfl, rfl, rfl⟩ := H
  go_enter Tryz.func34, Tryz.ntmps34
  go_wp2_with (first | (refine bxA w 1 #[.bool a0_0, .string a0_1, .string a0_2] 23 fun g1 w1 B1 G1 hg hb HB => ?_; clear hb hg) | (refine bxZ w 2 23 fun g2 w2 B2 G2 hg hb HB => ?_; obtain ⟨N1, N2⟩ := nP B1 hg; replace B1 := bB B1 hb; clear hb hg; have m1 := N1; have n1 := N2; obtain ⟨_, _, _, _, _, _⟩ := xB3 B1) | (refine gB 4 Tryz.func59 (Q1Valid.calls _ _ _ _ _ _ A1.out) fun w3 hb HB => ?_; replace B1 := bB B1 hb; replace B2 := bB B2 hb; clear hb; obtain ⟨_, _, _, _, _, _⟩ := xB3 B2))
  refine pR 23 #[.bool false, .string (⟨#[]⟩ : ByteArray), .string (⟨#[]⟩ : ByteArray)] B2 Tryz.underlying23 ?_
  exact ⟨zE, zH⟩
def Q1reduced.f (k : Nat) (a0 : Bool) (a1 a2 : ByteArray) : Option (Bool × ByteArray × ByteArray) := (N1Normalize.f k a1).bind fun t489 => ((N1Normalize.f k a2).bind fun t490 => (if t489.toList = ([] : List UInt8) then (some (false, (⟨#[]⟩ : ByteArray), (⟨#[]⟩ : ByteArray))) else (if t490.toList = ([1] : List UInt8) then (some (a0, t489, (⟨#[]⟩ : ByteArray))) else ((N1GCD.f k t489 t490).bind fun t491 => (if t491.toList = ([1] : List UInt8) then (some (a0, t489, t490)) else ((N1Divide.f k t489 t491).bind fun bt492 => ((N1Divide.f k t490 t491).bind fun bt495 => (if bt495.1.toList = ([1] : List UInt8) then (some (a0, bt492.1, (⟨#[]⟩ : ByteArray))) else (some (a0, bt492.1, bt495.1))))))))))
theorem Q1reduced.calls (k : Nat) (a0 : Bool) (a1 a2 : ByteArray) (r1 : Bool) (r2 r3 : ByteArray) (w : World) (H : Q1reduced.f k a0 a1 a2 = some (r1, r2, r3)) :
 Calls Tryz.prog 35 #[.bool a0, .string a1, .string a2] w fun e w' => e = .returned (.agg #[.bool r1, .string r2, .string r3]) ∧ Below w.heap.size w w' := by
 have hu1 := Tryz.underlying23
 have HB := Aside0.mk (Below.refl w.heap.size w)
 unfold Q1reduced.f at H
 replace ⟨t1, A1, H⟩ := bS H
 replace ⟨t2, A2, H⟩ := bS H
 replace H := iQ H
 rcases H with ⟨c1b0, c1b1, H⟩ | ⟨c1b0, c1b1, H⟩
 ·simp only [Option.some.injEq, Prod.mk.injEq] at H
  obtain ⟨rfl, rfl, rfl⟩ := H
  go_enter Tryz.func35, Tryz.ntmps35
  go_wp2_with (first | (refine bxZ w 6 23 fun g1 w1 B1 G1 hg hb HB => ?_; clear hb hg) | (refine gF 9 Tryz.func60 (N1Normalize.calls _ _ _ _ A1.out) fun w1 hb HB => ?_; replace B1 := bB B1 hb; clear hb) | (refine gF 11 Tryz.func60 (N1Normalize.calls _ _ _ _ A2.out) fun w1 hb HB => ?_; replace B1 := bB B1 hb; clear hb; obtain ⟨_, _, _, _, _, _⟩ := xB3 B1))
  refine pR 23 #[.bool false, .string (⟨#[]⟩ : ByteArray), .string (⟨#[]⟩ : ByteArray)] B1 Tryz.underlying23 ?_
  exact ⟨zE, zH⟩
 ·replace H := iQ H
  rcases H with ⟨c2b0, c2b1, H⟩ | ⟨c2b0, c2b1, H⟩
  ·simp only [Option.some.injEq, Prod.mk.injEq] at H
   obtain ⟨rfl, rfl, rfl⟩ := H
   go_enter Tryz.func35, Tryz.ntmps35
   go_wp2_with (first | (refine bxZ w 6 23 fun g1 w1 B1 G1 hg hb HB => ?_; clear hb hg) | (refine gF 9 Tryz.func60 (N1Normalize.calls _ _ _ _ A1.out) fun w1 hb HB => ?_; replace B1 := bB B1 hb; clear hb) | (refine gF 11 Tryz.func60 (N1Normalize.calls _ _ _ _ A2.out) fun w1 hb HB => ?_; replace B1 := bB B1 hb; clear hb; obtain ⟨_, _, _, _, _, _⟩ := xB3 B1))
   refine pR 23 #[.bool a0, .string t1, .string (⟨#[]⟩ : ByteArray)] B1 Tryz.underlying23 ?_
   exact ⟨zE, zH⟩
  ·replace ⟨t3, A3, H⟩ := bS H
   replace H := iQ H
   rcases H with ⟨c3b0, c3b1, H⟩ | ⟨c3b0, c3b1, H⟩
   ·simp only [Option.some.injEq, Prod.mk.injEq] at H
    obtain ⟨rfl, rfl, rfl⟩ := H
    go_enter Tryz.func35, Tryz.ntmps35
    go_wp2_with (first | (refine bxZ w 6 23 fun g1 w1 B1 G1 hg hb HB => ?_; clear hb hg) | (refine gF 9 Tryz.func60 (N1Normalize.calls _ _ _ _ A1.out) fun w1 hb HB => ?_; replace B1 := bB B1 hb; clear hb) | (refine gF 11 Tryz.func60 (N1Normalize.calls _ _ _ _ A2.out) fun w1 hb HB => ?_; replace B1 := bB B1 hb; clear hb) | (refine gB 19 Tryz.func61 (N1GCD.calls _ _ _ _ _ A3.out) fun w2 hb HB => ?_; replace B1 := bB B1 hb; clear hb; obtain ⟨_, _, _, _, _, _⟩ := xB3 B1))
    refine pR 23 #[.bool a0, .string t1, .string t2] B1 Tryz.underlying23 ?_
    exact ⟨zE, zH⟩
   ·replace ⟨⟨t4, t5, t6⟩, A4, H⟩ := bS H
    (try dsimp only at H)
    replace ⟨⟨t7, t8, t9⟩, A5, H⟩ := bS H
    (try dsimp only at H)
    replace H := iQ H
    rcases H with ⟨c4b0, c4b1, H⟩ | ⟨c4b0, c4b1, H⟩
    simp only [Option.some.injEq, Prod.mk.injEq] at H
    obtain ⟨rfl, rfl, rfl⟩ := H
    rotate_left
    simp only [Option.some.injEq, Prod.mk.injEq] at H
    obtain ⟨rfl, rfl, rfl⟩ := H
    rotate_left
    all_goals
     go_enter Tryz.func35, Tryz.ntmps35
     go_wp2_with (first | (refine bxZ w 6 23 fun g1 w1 B1 G1 hg hb HB => ?_; clear hb hg) | (refine gF 9 Tryz.func60 (N1Normalize.calls _ _ _ _ A1.out) fun w1 hb HB => ?_; replace B1 := bB B1 hb; clear hb) | (refine gF 11 Tryz.func60 (N1Normalize.calls _ _ _ _ A2.out) fun w1 hb HB => ?_; replace B1 := bB B1 hb; clear hb) | (refine gB 19 Tryz.func61 (N1GCD.calls _ _ _ _ _ A3.out) fun w2 hb HB => ?_; replace B1 := bB B1 hb; clear hb) | (refine gB 25 Tryz.func62 (N1Divide.calls _ _ _ _ _ _ _ A4.out) fun w3 hb HB => ?_; replace B1 := bB B1 hb; clear hb) | (refine gB 32 Tryz.func62 (N1Divide.calls _ _ _ _ _ _ _ A5.out) fun w4 hb HB => ?_; replace B1 := bB B1 hb; clear hb; obtain ⟨_, _, _, _, _, _⟩ := xB3 B1))
    ·refine pR 23 #[.bool a0, .string t4, .string (⟨#[]⟩ : ByteArray)] B1 Tryz.underlying23 ?_
     exact ⟨zE, zH⟩
    ·refine pR 23 #[.bool a0, .string t4, .string t7] B1 Tryz.underlying23 ?_
     exact ⟨zE, zH⟩
def Q1den.f (a0_0 : Bool) (a0_1 a0_2 : ByteArray) : Option (ByteArray) := if a0_2.toList = ([] : List UInt8) then (some (⟨#[1]⟩ : ByteArray)) else (some a0_2)
theorem Q1den.calls (a0_0 : Bool) (a0_1 a0_2 r : ByteArray) (w : World) (H : Q1den.f a0_0 a0_1 a0_2 = some r) :
 Calls Tryz.prog 37 #[.agg #[.bool a0_0, .string a0_1, .string a0_2]] w fun e w' => e = .returned (.string r) ∧ Below w.heap.size w w' := by
 have hu1 := Tryz.underlying23
 have HB := Aside0.mk (Below.refl w.heap.size w)
 unfold Q1den.f at H
 replace H := iQ H
 rcases H with ⟨c1b0, c1b1, H⟩ | ⟨c1b0, c1b1, H⟩
 obtain rfl := sI H
 rotate_left
 obtain rfl := sI H
 rotate_left
 all_goals
  go_enter Tryz.func37, Tryz.ntmps37
  go_wp2_with (refine bxA w 1 #[.bool a0_0, .string a0_1, .string a0_2] 23 fun g1 w1 B1 G1 hg hb HB => ?_; clear hb hg; obtain ⟨_, _, _, _, _, _⟩ := xB3 B1)
  go_ret
  exact ⟨zE, zH⟩
end Go.Proofs.YtggfilmdfpmbmaaGreatDoor.QN
end
section
namespace Go.Proofs.YtggfilmdfpmbmaaGreatDoor.QN
open Go.RowKit Go.Proofs.YtggfilmdfpmbmaaGreatDoorW.PrintWords Go.Proofs.YtggfilmdfpmbmaaGreatDoorW.PrintLast Go.Proofs.YtggfilmdfpmbmaaGreatDoorW.PrintMore
attribute [local go_sem] max2_int min2_int max_two min_two max_three min_three max_four min_four
set_option linter.unusedVariables false
set_option linter.unusedSimpArgs false
def Q1Multiply.f (k : Nat) (a0_0 : Bool) (a0_1 a0_2 : ByteArray) (a1_0 : Bool) (a1_1 a1_2 : ByteArray) : Option (Bool × ByteArray × ByteArray) := (Q1clean.f k a0_0 a0_1 a0_2).bind fun bt502 => ((Q1clean.f k a1_0 a1_1 a1_2).bind fun bt505 => ((N1Multiply.f k bt502.2.1 bt505.2.1).bind fun t508 => ((Q1den.f bt502.1 bt502.2.1 bt502.2.2).bind fun t509 => ((Q1den.f bt505.1 bt505.2.1 bt505.2.2).bind fun t510 => ((N1Multiply.f k t509 t510).bind fun t511 => ((Q1reduced.f k (bt502.1 != bt505.1) t508 t511).bind fun bt512 => (some (bt512.1, bt512.2.1, bt512.2.2))))))))
def Q1Multiply.T2 : Bool × List (List Nat × List Nat) := (true, [([], []), ([0], [0]), ([], []), ([2], [2]), ([1, 3], [1, 3]), ([], []), ([5], [5]), ([], []), ([7], [7]), ([6, 8], [6, 8]), ([], []), ([10, 9], [10]), ([], []), ([12, 11], [12]), ([11, 13, 13], [11, 13]), ([4, 9, 14, 14], [4, 9, 14]), ([15, 15, 0, 1, 2, 3, 4, 5, 6, 7, 8, 9, 10, 11, 12, 13, 14, 15], [15])])
def Q1Multiply.B2 : List Nat := [0, 1, 0, 4, 15, 0, 32, 0, 128, 480, 0, 2016, 0, 8160, 16352, 32767, 65535]
theorem Q1Multiply.tab2 : rtab .any (opsOf Tryz.f18 2) = Q1Multiply.T2 := by kernel_rfl
theorem Q1Multiply.bits2 : waitsOk Q1Multiply.T2.2 Q1Multiply.B2 = true := by kernel_rfl
set_option maxHeartbeats 8000000 in
set_option maxRecDepth 100000 in
theorem Q1Multiply.calls (k : Nat) (a0_0 : Bool) (a0_1 a0_2 : ByteArray) (a1_0 : Bool) (a1_1 a1_2 : ByteArray) (r1 : Bool) (r2 r3 : ByteArray) (w : World) (H : Q1Multiply.f k a0_0 a0_1 a0_2 a1_0 a1_1 a1_2 = some (r1, r2, r3)) :
 Calls Tryz.prog 18 #[.agg #[.bool a0_0, .string a0_1, .string a0_2], .agg #[.bool a1_0, .string a1_1, .string a1_2]] w fun e w' => e = .returned (.agg #[.bool r1, .string r2, .string r3]) ∧ Below w.heap.size w w' := by
 have hu1 := Tryz.underlying23
 have HB := Aside0.mk (Below.refl w.heap.size w)
 unfold Q1Multiply.f at H
 replace ⟨⟨t1, t2, t3⟩, A1, H⟩ := bS H
 (try dsimp only at H)
 replace ⟨⟨t4, t5, t6⟩, A2, H⟩ := bS H
 (try dsimp only at H)
 replace ⟨t7, A3, H⟩ := bS H
 replace ⟨t8, A4, H⟩ := bS H
 replace ⟨t9, A5, H⟩ := bS H
 replace ⟨t10, A6, H⟩ := bS H
 replace ⟨⟨t11, t12, t13⟩, A7, H⟩ := bS H
 (try dsimp only at H)
 simp only [Option.some.injEq, Prod.mk.injEq] at H
 obtain ⟨rfl, rfl, rfl⟩ := H
 go_enter Tryz.func18, Tryz.ntmps18
 try go_wp2_with (first | (refine bxA w 2 #[.bool a0_0, .string a0_1, .string a0_2] 23 fun g1 w2 B1 G1 hg hb HB => ?_; clear hb hg) | (refine bxA w 3 #[.bool a1_0, .string a1_1, .string a1_2] 23 fun g2 w3 B2 G2 hg hb HB => ?_; obtain ⟨N1, N2⟩ := nP B1 hg; replace B1 := bB B1 hb; clear hb hg) | (refine bxZ w 4 23 fun g3 w4 B3 G3 hg hb HB => ?_; obtain ⟨N3, N4⟩ := nP B1 hg; obtain ⟨N5, N6⟩ := nP B2 hg; replace B1 := bB B1 hb; replace B2 := bB B2 hb; clear hb hg))
 replace B1 := bD B1
 replace B2 := bD B2
 replace B3 := bD B3
 replace HB := hD HB
 refine startC2 6 [4, 5] B1 B2 (fun hHeld => ?_)
 generalize w4.drew = w5 at B1 B2 B3 HB hHeld ⊢
 refine takeAk 0 5 (lB 6 1) rfl rfl hHeld ?_
 refine takeAk 2 7 (lB 6 5) rfl rfl hHeld ?_
 refine rcBk 1 7 Tryz.func34 (Q1clean.calls _ _ _ _ _ _ _ _ A1.out) hHeld br fun w6 hb hHeld => ?_
 refine rcBk 3 15 Tryz.func34 (Q1clean.calls _ _ _ _ _ _ _ _ A2.out) hHeld hb fun w7 hb hHeld => ?_
 replace B1 := bB B1 hb
 replace B2 := bB B2 hb
 replace B3 := bB B3 hb
 replace HB := sB hb
 clear hb
 refine last_ (i := 4) (N := none) (lB 6 31) rfl rfl (by kernel_rfl) (by decide) (fun K hK => ?_)
 have hs16 := cB B1 0 (.bool a0_0)
 have hfs16 := fB B1 0
 have hs17 := cB B1 1 (.string a0_1)
 have hfs17 := fB B1 1
 have hs18 := cB B1 2 (.string a0_2)
 have hfs18 := fB B1 2
 refine skip_ (w1 := ?_) (by rfl) rfl ?_ ?_
 rotate_left
 ·go_simp
  rfl
 refine hK.out _ _ ?_
 clear hK K
 refine last_ (i := 5) (N := none) (lB 6 63) rfl rfl (by kernel_rfl) (by decide) (fun K hK => ?_)
 have hs19 := cB B2 0 (.bool a1_0)
 have hfs19 := fB B2 0
 have hs20 := cB B2 1 (.string a1_1)
 have hfs20 := fB B2 1
 have hs21 := cB B2 2 (.string a1_2)
 have hfs21 := fB B2 2
 refine skip_ (w1 := ?_) (by rfl) rfl ?_ ?_
 rotate_left
 ·go_simp
  rfl
 refine hK.out _ _ ?_
 clear hK K
 refine done_ (by kernel_rfl) ?_
 try go_wp2
 generalize hW_ : ((((((w7.setCell ⟨g1, 0, none⟩ (.bool t1)).setCell ⟨g1, 1, none⟩ (.string t2)).setCell ⟨g1, 2, none⟩ (.string t3)).setCell ⟨g2, 0, none⟩ (.bool t4)).setCell ⟨g2, 1, none⟩ (.string t5)).setCell ⟨g2, 2, none⟩ (.string t6)) = w8
 replace B1 : Aside0 (w8.heap[g1]? = some (.cells #[.bool t1, .string t2, .string t3] 23 (0, 0))) := bG hW_ B1
 replace B2 : Aside0 (w8.heap[g2]? = some (.cells #[.bool t4, .string t5, .string t6] 23 (0, 0))) := bG hW_ B2
 replace B3 : Aside0 (w8.heap[g3]? = some (.cells #[.bool false, .string (⟨#[]⟩ : ByteArray), .string (⟨#[]⟩ : ByteArray)] 23 (0, 0))) := bG hW_ B3
 replace HB := hG hW_
 clear hW_
 replace B1 := bD B1
 replace B2 := bD B2
 replace B3 := bD B3
 replace HB := hD HB
 refine startC2 17 [] B1 B2 (fun hHeld => ?_); refine with_tabW Q1Multiply.tab2 Q1Multiply.bits2 (fun HT_ HW_ => ?_)
 generalize w8.drew = w9 at B1 B2 B3 HB hHeld ⊢
 refine pA 0 1 ?_
 refine pA 2 5 ?_
 refine pA 5 37 ?_
 refine pA 7 165 ?_
 refine tA 1 167 hHeld ?_
 refine tA 3 175 hHeld ?_
 refine pA 4 191 ?_
 refine tA 6 255 hHeld ?_
 refine tA 8 511 hHeld ?_
 refine tA 10 1535 hHeld ?_
 refine tA 12 5631 hHeld ?_
 refine rcB 9 6143 Tryz.func36 (N1Multiply.calls _ _ _ _ _ A3.out) hHeld br fun w10 hb hHeld => ?_
 refine rcB 11 8191 Tryz.func37 (Q1den.calls _ _ _ _ _ A4.out) hHeld hb fun w11 hb hHeld => ?_
 refine rcB 13 16383 Tryz.func37 (Q1den.calls _ _ _ _ _ A5.out) hHeld hb fun w12 hb hHeld => ?_
 refine rcB 14 32767 Tryz.func36 (N1Multiply.calls _ _ _ _ _ A6.out) hHeld hb fun w13 hb hHeld => ?_
 refine rcB 15 65535 Tryz.func35 (Q1reduced.calls _ _ _ _ _ _ _ _ A7.out) hHeld hb fun w14 hb hHeld => ?_
 replace B1 := bB B1 hb
 replace B2 := bB B2 hb
 replace B3 := bB B3 hb
 replace HB := sB hb
 clear hb
 refine one_ (i := 16) (N := none) (lB 17 131071) rfl rfl (one_of HT_.out (by kernel_rfl)) (by decide) (fun K hK => ?_)
 have hs29 := cB B3 0 (.bool false)
 have hfs29 := fB B3 0
 have hs30 := cB B3 1 (.string (⟨#[]⟩ : ByteArray))
 have hfs30 := fB B3 1
 have hs31 := cB B3 2 (.string (⟨#[]⟩ : ByteArray))
 have hfs31 := fB B3 2
 refine skip_ (w1 := ?_) (by rfl) rfl ?_ ?_
 rotate_left
 ·go_simp
  rfl
 refine hK.out _ _ zC (fun hHeld => ?_)
 clear hK K
 refine done_ (done_of HT_.out (by kernel_rfl)) ?_
 try go_wp2
 refine pR 23 #[.bool t11, .string t12, .string t13] B3 Tryz.underlying23 ?_
 exact ⟨zE, zH⟩
end Go.Proofs.YtggfilmdfpmbmaaGreatDoor.QN
end
section
namespace Go.Proofs.YtggfilmdfpmbmaaGreatDoor.QN
open Go.RowKit Go.Proofs.YtggfilmdfpmbmaaGreatDoorW.PrintWords Go.Proofs.YtggfilmdfpmbmaaGreatDoorW.PrintLast Go.Proofs.YtggfilmdfpmbmaaGreatDoorW.PrintMore
attribute [local go_sem] max2_int min2_int max_two min_two max_three min_three max_four min_four
set_option linter.unusedVariables false
set_option linter.unusedSimpArgs false
set_option maxHeartbeats 8000000
set_option maxRecDepth 100000
def Q1add.j0 : Nat → ByteArray → ByteArray → ByteArray → Bool → ByteArray → ByteArray → Bool → ByteArray → ByteArray → Option (Bool × ByteArray × ByteArray)
 | 0, _, _, _, _, _, _, _, _, _ => none
 | k + 1, x5, x6, x7, x516000, x516001, x516002, x517000, x517001, x517002 => if (x516000 == x517000) = true then ((N1Add.f k x5 x6).bind fun t526 => ((Q1reduced.f k x516000 t526 x7).bind fun bt527 => (some (bt527.1, bt527.2.1, bt527.2.2)))) else ((N1Subtract.f k x5 x6).bind fun bt530 => (if bt530.2 = true then ((Q1reduced.f k x516000 bt530.1 x7).bind fun bt532 => (some (bt532.1, bt532.2.1, bt532.2.2))) else ((N1Subtract.f k x6 x5).bind fun bt535 => ((Q1reduced.f k x517000 bt535.1 x7).bind fun bt537 => (some (bt537.1, bt537.2.1, bt537.2.2))))))
def Q1add.f (k : Nat) (a0_0 : Bool) (a0_1 a0_2 : ByteArray) (a1_0 : Bool) (a1_1 a1_2 : ByteArray) : Option (Bool × ByteArray × ByteArray) := if a0_2.toList = a1_2.toList then ((Q1den.f a0_0 a0_1 a0_2).bind fun t518 => (Q1add.j0 k a0_1 a1_1 t518 a0_0 a0_1 a0_2 a1_0 a1_1 a1_2)) else ((Q1den.f a1_0 a1_1 a1_2).bind fun t519 => ((N1Multiply.f k a0_1 t519).bind fun t520 => ((Q1den.f a0_0 a0_1 a0_2).bind fun t521 => ((N1Multiply.f k a1_1 t521).bind fun t522 => ((Q1den.f a0_0 a0_1 a0_2).bind fun t523 => ((Q1den.f a1_0 a1_1 a1_2).bind fun t524 => ((N1Multiply.f k t523 t524).bind fun t525 => (Q1add.j0 k t520 t522 t525 a0_0 a0_1 a0_2 a1_0 a1_1 a1_2))))))))
def Q1add.T3 : Bool × List (List Nat × List Nat) := (true, [([], []), ([], []), ([1], [1]), ([0, 2, 2], [0, 2]), ([], []), ([], []), ([5, 3], [5]), ([4, 6, 6], [4, 6]), ([3, 7, 0, 1, 2, 3], [0, 3]), ([7, 8, 0, 1, 2, 3, 4, 5, 6, 7, 8], [4, 7])])
def Q1add.B3 : List Nat := [0, 0, 2, 7, 0, 0, 47, 127, 255, 511]
theorem Q1add.tab3 : rtab .any (opsOf Tryz.f33 3) = Q1add.T3 := by kernel_rfl
theorem Q1add.bits3 : waitsOk Q1add.T3.2 Q1add.B3 = true := by kernel_rfl
def Q1add.T7 : Bool × List (List Nat × List Nat) := (true, [([], []), ([0], [0]), ([], []), ([], []), ([2, 3], [2, 3]), ([], []), ([1, 4, 5, 4], [1, 4, 5]), ([6, 6, 0, 1, 2, 3, 4, 5, 6], [6])])
def Q1add.B7 : List Nat := [0, 1, 0, 0, 12, 0, 63, 127]
theorem Q1add.tab7 : rtab .any (opsOf Tryz.f33 7) = Q1add.T7 := by kernel_rfl
theorem Q1add.bits7 : waitsOk Q1add.T7.2 Q1add.B7 = true := by kernel_rfl
theorem Q1add.calls (k : Nat) (a0_0 : Bool) (a0_1 a0_2 : ByteArray) (a1_0 : Bool) (a1_1 a1_2 : ByteArray) (r1 : Bool) (r2 r3 : ByteArray) (w : World) (H : Q1add.f k a0_0 a0_1 a0_2 a1_0 a1_1 a1_2 = some (r1, r2, r3)) :
 Calls Tryz.prog 33 #[.agg #[.bool a0_0, .string a0_1, .string a0_2], .agg #[.bool a1_0, .string a1_1, .string a1_2]] w fun e w' => e = .returned (.agg #[.bool r1, .string r2, .string r3]) ∧ Below w.heap.size w w' := by
 have hu1 := Tryz.underlying23
 have HB := Aside0.mk (Below.refl w.heap.size w)
 unfold Q1add.f at H
 have HC3 := Aside0.mk H
 clear H
 go_enter Tryz.func33, Tryz.ntmps33
 try go_wp2_with (first | (refine bxA w 2 #[.bool a0_0, .string a0_1, .string a0_2] 23 fun g1 w2 B1 G1 hg hb HB => ?_; clear hb hg) | (refine bxA w 3 #[.bool a1_0, .string a1_1, .string a1_2] 23 fun g2 w3 B2 G2 hg hb HB => ?_; obtain ⟨N1, N2⟩ := nP B1 hg; replace B1 := bB B1 hb; clear hb hg) | (refine bxZ w 4 23 fun g3 w4 B3 G3 hg hb HB => ?_; obtain ⟨N3, N4⟩ := nP B1 hg; obtain ⟨N5, N6⟩ := nP B2 hg; replace B1 := bB B1 hb; replace B2 := bB B2 hb; clear hb hg))
 replace B1 := bD B1
 replace B2 := bD B2
 replace B3 := bD B3
 replace HB := hD HB
 refine startC2 7 [] B1 B2 (fun hHeld => ?_)
 generalize w4.drew = w5 at B1 B2 B3 HB hHeld ⊢
 refine pureAk 0 12 (lB 7 1) rfl rfl ?_
 refine pureAk 2 14 (lB 7 5) rfl rfl ?_
 refine takeAk 1 13 (lB 7 7) rfl rfl hHeld ?_
 refine pureAk 4 5 (lB 7 23) rfl rfl ?_
 refine takeAk 3 15 (lB 7 31) rfl rfl hHeld ?_
 refine pureAk 5 6 (lB 7 63) rfl rfl ?_
 refine pureAk 6 7 (lB 7 127) rfl rfl ?_
 refine done_ (by kernel_rfl) ?_
 obtain ⟨_, _, _, _, _, _⟩ := xB3 B1
 obtain ⟨_, _, _, _, _, _⟩ := xB3 B2
 go_upto_if 20 with (fail)
 go_cut [5, 6, 7] (fun v1 v2 v3 wc => ∃ (kq : Nat) (x1 : ByteArray) (x2 : ByteArray) (x3 : ByteArray), v1 = .string x1 ∧ v2 = .string x2 ∧ v3 = .string x3 ∧ Aside0 (Q1add.j0 kq x1 x2 x3 a0_0 a0_1 a0_2 a1_0 a1_1 a1_2 = some (r1, r2, r3)) ∧ Aside0 (kq ≤ k) ∧ Aside0 (wc.heap[g1]? = some (.cells #[.bool a0_0, .string a0_1, .string a0_2] 23 (0, 0))) ∧ Aside0 (wc.heap[g2]? = some (.cells #[.bool a1_0, .string a1_1, .string a1_2] 23 (0, 0))) ∧ Aside0 (wc.heap[g3]? = some (.cells #[.bool false, .string (⟨#[]⟩ : ByteArray), .string (⟨#[]⟩ : ByteArray)] 23 (0, 0))) ∧ Aside0 (Below w.heap.size w wc))
 case first =>
  have H := HC3.out
  clear HC3
  replace H := iQ H
  rcases H with ⟨c1b0, c1b1, H⟩ | ⟨c1b0, c1b1, H⟩
  ·(first | rw [c1b0] | (simp only [i64_w, i32_w]; rw [c1b0]) | rw [c1b1] | skip)
   replace ⟨t1, A1, H⟩ := bS H
   have H' := Aside0.mk H
   clear H
   obtain ⟨_, _, _, _, _, _⟩ := xB3 B1
   go_wp2_with (refine gB 35 Tryz.func37 (Q1den.calls _ _ _ _ _ A1.out) fun w6 hb HB => ?_; replace B1 := bB B1 hb; replace B2 := bB B2 hb; replace B3 := bB B3 hb; clear hb)
   go_meet
   case rel => exact ⟨_, (a0_1), (a1_1), (t1), zq1, zq1, zq1, H', ⟨zq6⟩, ⟨bC B1⟩, ⟨bC B2⟩, ⟨bC B3⟩, ⟨zH⟩⟩
  ·(first | rw [c1b0] | (simp only [i64_w, i32_w]; rw [c1b0]) | rw [c1b1] | skip)
   replace ⟨t1, A1, H⟩ := bS H
   replace ⟨t2, A2, H⟩ := bS H
   replace ⟨t3, A3, H⟩ := bS H
   replace ⟨t4, A4, H⟩ := bS H
   replace ⟨t5, A5, H⟩ := bS H
   replace ⟨t6, A6, H⟩ := bS H
   replace ⟨t7, A7, H⟩ := bS H
   have H' := Aside0.mk H
   clear H
   try go_wp2
   replace B1 := bD B1
   replace B2 := bD B2
   replace B3 := bD B3
   replace HB := hD HB
   refine startC2 10 [] B2 B1 (fun hHeld => ?_); refine with_tabW Q1add.tab3 Q1add.bits3 (fun HT_ HW_ => ?_)
   generalize w5.drew = w6 at B1 B2 B3 HB hHeld ⊢
   refine pA 0 1 ?_
   refine pA 4 17 ?_
   refine tA 1 19 hHeld ?_
   refine tA 5 51 hHeld ?_
   refine rcB 2 55 Tryz.func37 (Q1den.calls _ _ _ _ _ A1.out) hHeld br fun w7 hb hHeld => ?_
   refine rcB 3 63 Tryz.func36 (N1Multiply.calls _ _ _ _ _ A2.out) hHeld hb fun w8 hb hHeld => ?_
   refine rcB 6 127 Tryz.func37 (Q1den.calls _ _ _ _ _ A3.out) hHeld hb fun w9 hb hHeld => ?_
   refine rcB 7 255 Tryz.func36 (N1Multiply.calls _ _ _ _ _ A4.out) hHeld hb fun w10 hb hHeld => ?_
   refine pA 8 511 ?_
   refine pA 9 1023 ?_
   replace B1 := bB B1 hb
   replace B2 := bB B2 hb
   replace B3 := bB B3 hb
   replace HB := sB hb
   clear hb
   refine done_ (done_of HT_.out (by kernel_rfl)) ?_
   try go_wp2
   replace B1 := bD B1
   replace B2 := bD B2
   replace B3 := bD B3
   replace HB := hD HB
   refine startC2 6 [] B1 B2 (fun hHeld => ?_)
   generalize w10.drew = w11 at B1 B2 B3 HB hHeld ⊢
   refine takeAk 0 29 (lB 6 1) rfl rfl hHeld ?_
   refine takeAk 2 31 (lB 6 5) rfl rfl hHeld ?_
   refine rcBk 1 7 Tryz.func37 (Q1den.calls _ _ _ _ _ A5.out) hHeld br fun w12 hb hHeld => ?_
   refine rcBk 3 15 Tryz.func37 (Q1den.calls _ _ _ _ _ A6.out) hHeld hb fun w13 hb hHeld => ?_
   refine rcBk 4 31 Tryz.func36 (N1Multiply.calls _ _ _ _ _ A7.out) hHeld hb fun w14 hb hHeld => ?_
   refine pureAk 5 7 (lB 6 63) rfl rfl ?_
   replace B1 := bB B1 hb
   replace B2 := bB B2 hb
   replace B3 := bB B3 hb
   replace HB := sB hb
   clear hb
   refine done_ (by kernel_rfl) ?_
   try go_wp2
   go_meet
   case rel => exact ⟨_, (t2), (t4), (t7), zq1, zq1, zq1, H', ⟨zq6⟩, ⟨bC B1⟩, ⟨bC B2⟩, ⟨bC B3⟩, ⟨zH⟩⟩
 case rest =>
  clear HC3
  obtain ⟨kq, x1, x2, x3, rfl, rfl, rfl, HA, HJ2, B1, B2, B3, HB⟩ := hcut
  cases kq with
  | zero => exact absurd HA.out (by simp [Q1add.j0])
  | succ kj2 =>
   have H := HA.out
   clear HA
   simp only [Q1add.j0] at H
   by_cases c2 : (a0_0 == a1_0) = true
   ·rw [if_pos c2] at H
    have c2b0 : (a0_0 == a1_0) = true := c2
    (try (have c2b1 : decide (a0_0 = a1_0) = true := by simpa using c2))
    (try (have c2b2 : (a0_0 == a1_0) = true := by simpa using c2))
    clear c2
    replace ⟨t1, A1, H⟩ := bS H
    replace ⟨⟨t2, t3, t4⟩, A2, H⟩ := bS H
    (try dsimp only at H)
    simp only [Option.some.injEq, Prod.mk.injEq] at H
    obtain ⟨rfl, rfl, rfl⟩ := H
    obtain ⟨_, _, _, _, _, _⟩ := xB3 B1
    obtain ⟨_, _, _, _, _, _⟩ := xB3 B2
    try go_wp2
    replace B1 := bD B1
    replace B2 := bD B2
    replace B3 := bD B3
    replace HB := hD HB
    refine startC1 8 [] B1 (fun hHeld => ?_); refine with_tabW Q1add.tab7 Q1add.bits7 (fun HT_ HW_ => ?_)
    generalize wc.drew = w6 at B1 B2 B3 HB hHeld ⊢
    refine pA 0 1 ?_
    refine pA 2 5 ?_
    refine pA 3 13 ?_
    refine pA 5 45 ?_
    refine tA 1 47 hHeld ?_
    refine rcB 4 63 Tryz.func57 (N1Add.calls _ _ _ _ _ A1.out) hHeld br fun w7 hb hHeld => ?_
    refine rcB 6 127 Tryz.func35 (Q1reduced.calls _ _ _ _ _ _ _ _ A2.out) hHeld hb fun w8 hb hHeld => ?_
    replace B1 := bB B1 hb
    replace B2 := bB B2 hb
    replace B3 := bB B3 hb
    replace HB := sB hb
    clear hb
    refine one_ (i := 7) (N := none) (lB 8 255) rfl rfl (one_of HT_.out (by kernel_rfl)) (by decide) (fun K hK => ?_)
    have hs46 := cB B3 0 (.bool false)
    have hfs46 := fB B3 0
    have hs47 := cB B3 1 (.string (⟨#[]⟩ : ByteArray))
    have hfs47 := fB B3 1
    have hs48 := cB B3 2 (.string (⟨#[]⟩ : ByteArray))
    have hfs48 := fB B3 2
    refine skip_ (w1 := ?_) (by rfl) rfl ?_ ?_
    rotate_left
    ·go_simp
     rfl
    refine hK.out _ _ zC (fun hHeld => ?_)
    clear hK K
    refine done_ (done_of HT_.out (by kernel_rfl)) ?_
    try go_wp2
    refine pR 23 #[.bool t2, .string t3, .string t4] B3 Tryz.underlying23 ?_
    exact ⟨zE, zH⟩
   ·rw [if_neg c2] at H
    have c2b0 : (a0_0 == a1_0) = false := by simpa using c2
    (try (have c2b1 : decide (a0_0 = a1_0) = false := by simpa using c2))
    (try (have c2b2 : (a0_0 == a1_0) = false := by simpa using c2))
    (try (have c2b3 : ¬ (a0_0 = a1_0) := by simpa using c2))
    clear c2
    replace ⟨⟨t1, t2⟩, A1, H⟩ := bS H
    (try dsimp only at H)
    by_cases c3 : t2 = true
    ·subst c3
     rw [if_pos rfl] at H
     replace ⟨⟨t3, t4, t5⟩, A2, H⟩ := bS H
     (try dsimp only at H)
     simp only [Option.some.injEq, Prod.mk.injEq] at H
     obtain ⟨rfl, rfl, rfl⟩ := H
     obtain ⟨_, _, _, _, _, _⟩ := xB3 B1
     obtain ⟨_, _, _, _, _, _⟩ := xB3 B2
     go_wp2_with (first | (refine gB 51 Tryz.func58 (N1Subtract.calls _ _ _ _ _ _ A1.out) fun w6 hb HB => ?_; replace B1 := bB B1 hb; replace B2 := bB B2 hb; replace B3 := bB B3 hb; clear hb; obtain ⟨_, _, _, _, _, _⟩ := xB3 B1) | (refine gB 59 Tryz.func35 (Q1reduced.calls _ _ _ _ _ _ _ _ A2.out) fun w7 hb HB => ?_; replace B1 := bB B1 hb; replace B2 := bB B2 hb; replace B3 := bB B3 hb; clear hb; obtain ⟨_, _, _, _, _, _⟩ := xB3 B3))
     refine pR 23 #[.bool t3, .string t4, .string t5] B3 Tryz.underlying23 ?_
     exact ⟨zE, zH⟩
    ·replace c3 := Bool.eq_false_iff.mpr c3
     subst c3
     rw [if_neg (show ¬ (false = true) by decide)] at H
     replace ⟨⟨t3, t4⟩, A2, H⟩ := bS H
     (try dsimp only at H)
     replace ⟨⟨t5, t6, t7⟩, A3, H⟩ := bS H
     (try dsimp only at H)
     simp only [Option.some.injEq, Prod.mk.injEq] at H
     obtain ⟨rfl, rfl, rfl⟩ := H
     obtain ⟨_, _, _, _, _, _⟩ := xB3 B1
     obtain ⟨_, _, _, _, _, _⟩ := xB3 B2
     go_wp2_with (first | (refine gB 51 Tryz.func58 (N1Subtract.calls _ _ _ _ _ _ A1.out) fun w6 hb HB => ?_; replace B1 := bB B1 hb; replace B2 := bB B2 hb; replace B3 := bB B3 hb; clear hb) | (refine gB 63 Tryz.func58 (N1Subtract.calls _ _ _ _ _ _ A2.out) fun w7 hb HB => ?_; replace B1 := bB B1 hb; replace B2 := bB B2 hb; replace B3 := bB B3 hb; clear hb; obtain ⟨_, _, _, _, _, _⟩ := xB3 B2) | (refine gB 70 Tryz.func35 (Q1reduced.calls _ _ _ _ _ _ _ _ A3.out) fun w8 hb HB => ?_; replace B1 := bB B1 hb; replace B2 := bB B2 hb; replace B3 := bB B3 hb; clear hb; obtain ⟨_, _, _, _, _, _⟩ := xB3 B3))
     refine pR 23 #[.bool t5, .string t6, .string t7] B3 Tryz.underlying23 ?_
     exact ⟨zE, zH⟩
def Q1Add.f (k : Nat) (a0_0 : Bool) (a0_1 a0_2 : ByteArray) (a1_0 : Bool) (a1_1 a1_2 : ByteArray) : Option (Bool × ByteArray × ByteArray) := (Q1clean.f k a0_0 a0_1 a0_2).bind fun bt543 => ((Q1clean.f k a1_0 a1_1 a1_2).bind fun bt546 => ((Q1add.f k bt543.1 bt543.2.1 bt543.2.2 bt546.1 bt546.2.1 bt546.2.2).bind fun bt549 => (some (bt549.1, bt549.2.1, bt549.2.2))))
theorem Q1Add.calls (k : Nat) (a0_0 : Bool) (a0_1 a0_2 : ByteArray) (a1_0 : Bool) (a1_1 a1_2 : ByteArray) (r1 : Bool) (r2 r3 : ByteArray) (w : World) (H : Q1Add.f k a0_0 a0_1 a0_2 a1_0 a1_1 a1_2 = some (r1, r2, r3)) :
 Calls Tryz.prog 17 #[.agg #[.bool a0_0, .string a0_1, .string a0_2], .agg #[.bool a1_0, .string a1_1, .string a1_2]] w fun e w' => e = .returned (.agg #[.bool r1, .string r2, .string r3]) ∧ Below w.heap.size w w' := by
 have hu1 := Tryz.underlying23
 have HB := Aside0.mk (Below.refl w.heap.size w)
 unfold Q1Add.f at H
 replace ⟨⟨t1, t2, t3⟩, A1, H⟩ := bS H
 (try dsimp only at H)
 replace ⟨⟨t4, t5, t6⟩, A2, H⟩ := bS H
 (try dsimp only at H)
 replace ⟨⟨t7, t8, t9⟩, A3, H⟩ := bS H
 (try dsimp only at H)
 simp only [Option.some.injEq, Prod.mk.injEq] at H
 obtain ⟨rfl, rfl, rfl⟩ := H
 go_enter Tryz.func17, Tryz.ntmps17
 try go_wp2_with (first | (refine bxA w 2 #[.bool a0_0, .string a0_1, .string a0_2] 23 fun g1 w2 B1 G1 hg hb HB => ?_; clear hb hg) | (refine bxA w 3 #[.bool a1_0, .string a1_1, .string a1_2] 23 fun g2 w3 B2 G2 hg hb HB => ?_; obtain ⟨N1, N2⟩ := nP B1 hg; replace B1 := bB B1 hb; clear hb hg) | (refine bxZ w 4 23 fun g3 w4 B3 G3 hg hb HB => ?_; obtain ⟨N3, N4⟩ := nP B1 hg; obtain ⟨N5, N6⟩ := nP B2 hg; replace B1 := bB B1 hb; replace B2 := bB B2 hb; clear hb hg))
 replace B1 := bD B1
 replace B2 := bD B2
 replace B3 := bD B3
 replace HB := hD HB
 refine startC2 6 [] B1 B2 (fun hHeld => ?_)
 generalize w4.drew = w5 at B1 B2 B3 HB hHeld ⊢
 refine takeAk 0 5 (lB 6 1) rfl rfl hHeld ?_
 refine takeAk 2 7 (lB 6 5) rfl rfl hHeld ?_
 refine rcBk 1 7 Tryz.func34 (Q1clean.calls _ _ _ _ _ _ _ _ A1.out) hHeld br fun w6 hb hHeld => ?_
 refine rcBk 3 15 Tryz.func34 (Q1clean.calls _ _ _ _ _ _ _ _ A2.out) hHeld hb fun w7 hb hHeld => ?_
 refine rcBk 4 31 Tryz.func33 (Q1add.calls _ _ _ _ _ _ _ _ _ _ _ A3.out) hHeld hb fun w8 hb hHeld => ?_
 replace B1 := bB B1 hb
 replace B2 := bB B2 hb
 replace B3 := bB B3 hb
 replace HB := sB hb
 clear hb
 refine one_ (i := 5) (N := none) (lB 6 63) rfl rfl (by kernel_rfl) (by decide) (fun K hK => ?_)
 have hs13 := cB B3 0 (.bool false)
 have hfs13 := fB B3 0
 have hs14 := cB B3 1 (.string (⟨#[]⟩ : ByteArray))
 have hfs14 := fB B3 1
 have hs15 := cB B3 2 (.string (⟨#[]⟩ : ByteArray))
 have hfs15 := fB B3 2
 refine skip_ (w1 := ?_) (by rfl) rfl ?_ ?_
 rotate_left
 ·go_simp
  rfl
 refine hK.out _ _ zC (fun hHeld => ?_)
 clear hK K
 refine done_ (by kernel_rfl) ?_
 try go_wp2
 refine pR 23 #[.bool t7, .string t8, .string t9] B3 Tryz.underlying23 ?_
 exact ⟨zE, zH⟩
def Q1negate.f (a0_0 : Bool) (a0_1 a0_2 : ByteArray) : Option (Bool × ByteArray × ByteArray) := if a0_0 = true then (some (false, a0_1, a0_2)) else (some ((a0_1.toList != ([] : List UInt8)), a0_1, a0_2))
theorem Q1negate.calls (a0_0 : Bool) (a0_1 a0_2 : ByteArray) (r1 : Bool) (r2 r3 : ByteArray) (w : World) (H : Q1negate.f a0_0 a0_1 a0_2 = some (r1, r2, r3)) :
 Calls Tryz.prog 40 #[.agg #[.bool a0_0, .string a0_1, .string a0_2]] w fun e w' => e = .returned (.agg #[.bool r1, .string r2, .string r3]) ∧ Below w.heap.size w w' := by
 have hu1 := Tryz.underlying23
 have HB := Aside0.mk (Below.refl w.heap.size w)
 unfold Q1negate.f at H
 by_cases c1 : a0_0 = true
 ·subst c1
  rw [if_pos rfl] at H
  simp only [Option.some.injEq, Prod.mk.injEq] at H
  obtain ⟨rfl, rfl, rfl⟩ := H
  go_enter Tryz.func40, Tryz.ntmps40
  go_wp2_with (first | (refine bxA w 1 #[.bool true, .string a0_1, .string a0_2] 23 fun g1 w1 B1 G1 hg hb HB => ?_; clear hb hg) | (refine bxZ w 2 23 fun g2 w2 B2 G2 hg hb HB => ?_; obtain ⟨N1, N2⟩ := nP B1 hg; replace B1 := bB B1 hb; clear hb hg; have m1 := N1; have n1 := N2; obtain ⟨_, _, _, _, _, _⟩ := xB3 B1; obtain ⟨_, _, _, _, _, _⟩ := xB3 B2))
  refine pR 23 #[.bool false, .string a0_1, .string a0_2] B2 Tryz.underlying23 ?_
  exact ⟨zE, zH⟩
 ·replace c1 := Bool.eq_false_iff.mpr c1
  subst c1
  rw [if_neg (show ¬ (false = true) by decide)] at H
  simp only [Option.some.injEq, Prod.mk.injEq] at H
  obtain ⟨rfl, rfl, rfl⟩ := H
  go_enter Tryz.func40, Tryz.ntmps40
  go_wp2_with (first | (refine bxA w 1 #[.bool false, .string a0_1, .string a0_2] 23 fun g1 w1 B1 G1 hg hb HB => ?_; clear hb hg) | (refine bxZ w 2 23 fun g2 w2 B2 G2 hg hb HB => ?_; obtain ⟨N1, N2⟩ := nP B1 hg; replace B1 := bB B1 hb; clear hb hg; have m1 := N1; have n1 := N2; obtain ⟨_, _, _, _, _, _⟩ := xB3 B1; obtain ⟨_, _, _, _, _, _⟩ := xB3 B2))
  refine pR 23 #[.bool (a0_1.toList != ([] : List UInt8)), .string a0_1, .string a0_2] B2 Tryz.underlying23 ?_
  exact ⟨zE, zH⟩
def Q1Subtract.f (k : Nat) (a0_0 : Bool) (a0_1 a0_2 : ByteArray) (a1_0 : Bool) (a1_1 a1_2 : ByteArray) : Option (Bool × ByteArray × ByteArray) := (Q1clean.f k a0_0 a0_1 a0_2).bind fun bt557 => ((Q1clean.f k a1_0 a1_1 a1_2).bind fun bt560 => ((Q1negate.f bt560.1 bt560.2.1 bt560.2.2).bind fun bt563 => ((Q1add.f k bt557.1 bt557.2.1 bt557.2.2 bt563.1 bt563.2.1 bt563.2.2).bind fun bt566 => (some (bt566.1, bt566.2.1, bt566.2.2)))))
theorem Q1Subtract.calls (k : Nat) (a0_0 : Bool) (a0_1 a0_2 : ByteArray) (a1_0 : Bool) (a1_1 a1_2 : ByteArray) (r1 : Bool) (r2 r3 : ByteArray) (w : World) (H : Q1Subtract.f k a0_0 a0_1 a0_2 a1_0 a1_1 a1_2 = some (r1, r2, r3)) :
 Calls Tryz.prog 20 #[.agg #[.bool a0_0, .string a0_1, .string a0_2], .agg #[.bool a1_0, .string a1_1, .string a1_2]] w fun e w' => e = .returned (.agg #[.bool r1, .string r2, .string r3]) ∧ Below w.heap.size w w' := by
 have hu1 := Tryz.underlying23
 have HB := Aside0.mk (Below.refl w.heap.size w)
 unfold Q1Subtract.f at H
 replace ⟨⟨t1, t2, t3⟩, A1, H⟩ := bS H
 (try dsimp only at H)
 replace ⟨⟨t4, t5, t6⟩, A2, H⟩ := bS H
 (try dsimp only at H)
 replace ⟨⟨t7, t8, t9⟩, A3, H⟩ := bS H
 (try dsimp only at H)
 replace ⟨⟨t10, t11, t12⟩, A4, H⟩ := bS H
 (try dsimp only at H)
 simp only [Option.some.injEq, Prod.mk.injEq] at H
 obtain ⟨rfl, rfl, rfl⟩ := H
 go_enter Tryz.func20, Tryz.ntmps20
 try go_wp2_with (first | (refine bxA w 2 #[.bool a0_0, .string a0_1, .string a0_2] 23 fun g1 w2 B1 G1 hg hb HB => ?_; clear hb hg) | (refine bxA w 3 #[.bool a1_0, .string a1_1, .string a1_2] 23 fun g2 w3 B2 G2 hg hb HB => ?_; obtain ⟨N1, N2⟩ := nP B1 hg; replace B1 := bB B1 hb; clear hb hg) | (refine bxZ w 4 23 fun g3 w4 B3 G3 hg hb HB => ?_; obtain ⟨N3, N4⟩ := nP B1 hg; obtain ⟨N5, N6⟩ := nP B2 hg; replace B1 := bB B1 hb; replace B2 := bB B2 hb; clear hb hg))
 replace B1 := bD B1
 replace B2 := bD B2
 replace B3 := bD B3
 replace HB := hD HB
 refine startC2 7 [] B1 B2 (fun hHeld => ?_)
 generalize w4.drew = w5 at B1 B2 B3 HB hHeld ⊢
 refine takeAk 0 5 (lB 7 1) rfl rfl hHeld ?_
 refine takeAk 2 7 (lB 7 5) rfl rfl hHeld ?_
 refine rcBk 1 7 Tryz.func34 (Q1clean.calls _ _ _ _ _ _ _ _ A1.out) hHeld br fun w6 hb hHeld => ?_
 refine rcBk 3 15 Tryz.func34 (Q1clean.calls _ _ _ _ _ _ _ _ A2.out) hHeld hb fun w7 hb hHeld => ?_
 refine rcBk 4 31 Tryz.func40 (Q1negate.calls _ _ _ _ _ _ _ A3.out) hHeld hb fun w8 hb hHeld => ?_
 refine rcBk 5 63 Tryz.func33 (Q1add.calls _ _ _ _ _ _ _ _ _ _ _ A4.out) hHeld hb fun w9 hb hHeld => ?_
 replace B1 := bB B1 hb
 replace B2 := bB B2 hb
 replace B3 := bB B3 hb
 replace HB := sB hb
 clear hb
 refine one_ (i := 6) (N := none) (lB 7 127) rfl rfl (by kernel_rfl) (by decide) (fun K hK => ?_)
 have hs15 := cB B3 0 (.bool false)
 have hfs15 := fB B3 0
 have hs16 := cB B3 1 (.string (⟨#[]⟩ : ByteArray))
 have hfs16 := fB B3 1
 have hs17 := cB B3 2 (.string (⟨#[]⟩ : ByteArray))
 have hfs17 := fB B3 2
 refine skip_ (w1 := ?_) (by rfl) rfl ?_ ?_
 rotate_left
 ·go_simp
  rfl
 refine hK.out _ _ zC (fun hHeld => ?_)
 clear hK K
 refine done_ (by kernel_rfl) ?_
 try go_wp2
 refine pR 23 #[.bool t10, .string t11, .string t12] B3 Tryz.underlying23 ?_
 exact ⟨zE, zH⟩
def Q1signOf.f (a0_0 : Bool) (a0_1 a0_2 : ByteArray) : Option (Int) := if a0_1.toList = ([] : List UInt8) then (some 0) else (if a0_0 = true then (some (-1)) else (some 1))
theorem Q1signOf.calls (a0_0 : Bool) (a0_1 a0_2 : ByteArray) (r : Int) (w : World) (H : Q1signOf.f a0_0 a0_1 a0_2 = some r) :
 Calls Tryz.prog 56 #[.agg #[.bool a0_0, .string a0_1, .string a0_2]] w fun e w' => e = .returned (.int .i64 r) ∧ Below w.heap.size w w' := by
 have hu1 := Tryz.underlying23
 have HB := Aside0.mk (Below.refl w.heap.size w)
 unfold Q1signOf.f at H
 replace H := iQ H
 rcases H with ⟨c1b0, c1b1, H⟩ | ⟨c1b0, c1b1, H⟩
 ·obtain rfl := sI H
  go_enter Tryz.func56, Tryz.ntmps56
  go_wp2_with (refine bxA w 1 #[.bool a0_0, .string a0_1, .string a0_2] 23 fun g1 w1 B1 G1 hg hb HB => ?_; clear hb hg; obtain ⟨_, _, _, _, _, _⟩ := xB3 B1)
  go_ret
  exact ⟨zE, zH⟩
 ·by_cases c2 : a0_0 = true
  ·subst c2
   rw [if_pos rfl] at H
   obtain rfl := sI H
   go_enter Tryz.func56, Tryz.ntmps56
   go_wp2_with (refine bxA w 1 #[.bool true, .string a0_1, .string a0_2] 23 fun g1 w1 B1 G1 hg hb HB => ?_; clear hb hg; obtain ⟨_, _, _, _, _, _⟩ := xB3 B1)
   go_ret
   exact ⟨zE, zH⟩
  ·replace c2 := Bool.eq_false_iff.mpr c2
   subst c2
   rw [if_neg (show ¬ (false = true) by decide)] at H
   obtain rfl := sI H
   go_enter Tryz.func56, Tryz.ntmps56
   go_wp2_with (refine bxA w 1 #[.bool false, .string a0_1, .string a0_2] 23 fun g1 w1 B1 G1 hg hb HB => ?_; clear hb hg; obtain ⟨_, _, _, _, _, _⟩ := xB3 B1)
   go_ret
   exact ⟨zE, zH⟩
def Q1Sign.f (k : Nat) (a0_0 : Bool) (a0_1 a0_2 : ByteArray) : Option (Int) := (Q1clean.f k a0_0 a0_1 a0_2).bind fun bt571 => ((Q1signOf.f bt571.1 bt571.2.1 bt571.2.2).bind fun t574 => (some t574))
theorem Q1Sign.calls (k : Nat) (a0_0 : Bool) (a0_1 a0_2 : ByteArray) (r : Int) (w : World) (H : Q1Sign.f k a0_0 a0_1 a0_2 = some r) :
 Calls Tryz.prog 32 #[.agg #[.bool a0_0, .string a0_1, .string a0_2]] w fun e w' => e = .returned (.int .i64 r) ∧ Below w.heap.size w w' := by
 have hu1 := Tryz.underlying23
 have HB := Aside0.mk (Below.refl w.heap.size w)
 unfold Q1Sign.f at H
 replace ⟨⟨t1, t2, t3⟩, A1, H⟩ := bS H
 (try dsimp only at H)
 replace ⟨t4, A2, H⟩ := bS H
 obtain rfl := sI H
 go_enter Tryz.func32, Tryz.ntmps32
 go_wp2_with (first | (refine bxA w 1 #[.bool a0_0, .string a0_1, .string a0_2] 23 fun g1 w1 B1 G1 hg hb HB => ?_; clear hb hg; obtain ⟨_, _, _, _, _, _⟩ := xB3 B1) | (refine gB 4 Tryz.func34 (Q1clean.calls _ _ _ _ _ _ _ _ A1.out) fun w2 hb HB => ?_; replace B1 := bB B1 hb; clear hb) | (refine gB 5 Tryz.func56 (Q1signOf.calls _ _ _ _ _ A2.out) fun w3 hb HB => ?_; replace B1 := bB B1 hb; clear hb))
 go_ret
 exact ⟨zE, zH⟩
end Go.Proofs.YtggfilmdfpmbmaaGreatDoor.QN
end
