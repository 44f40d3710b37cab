/-
  Steps and laws behind the statement that the claim's last text proves: the words of the walks, the walks of the Go functions (printed by a program of this session's own, then shortened by one), and what they compute. Conditions: stated at each theorem.
-/
import Derived.Test.YtggfilmdfpmbmaaDoorP1
import Derived.Test.YtggfilmdfpmbmaaDoorP0
section
namespace Go.Proofs.YtggfilmdfpmbmaaDoor.QN
open Go.RowKit Go.Proofs.YtggfilmdfpmbmaaDoorW.PrintWords Go.Proofs.YtggfilmdfpmbmaaDoorW.PrintLast Go.Proofs.YtggfilmdfpmbmaaDoorW.PrintMore
attribute [local go_sem] max2_int min2_int max_two min_two max_three min_three max_four min_four   -- for this text's walks alone
set_option linter.unusedVariables false
set_option linter.unusedSimpArgs false
mutual
def N1step.j2 : Nat → List Int → List Int → Int → Int → Option (Int × List Int)
 | 0, _, _, _, _ => none
 | k + 1, x0, x1, x5, x7 => N1step.l1 k x0 x1 x5 x7 0 0 x1 (x1.length : Int) 0
def N1step.l1 : Nat → List Int → List Int → Int → Int → Int → Int → List Int → Int → Int → Option (Int × List Int)
 | 0, _, _, _, _, _, _, _, _, _ => none
 | k + 1, x0, x1, x5, x7, x9, x10, x82, x83, x84 => if x84 < x83 then (if 0 ≤ x84 then (if x84 < (x82.length : Int) then (if x84 < (x0.length : Int) then ((bits_Sub32.f (rd x0 x84) ((IntKind.u64.wrap ((IntKind.u64.wrap (x7 * (IntKind.u64.wrap (rd x82 x84)))) + x9)) % 4294967296) x10).bind fun bt157 => (N1step.l1 k (x0.set (x84 : Int).toNat bt157.1) x1 x5 x7 ((IntKind.u64.wrap ((IntKind.u64.wrap (x7 * (IntKind.u64.wrap (rd x82 x84)))) + x9)) / 4294967296) bt157.2 x82 x83 (wrap64 (x84 + 1)))) else (none)) else (none)) else (none)) else (if 0 ≤ x5 then (if x5 < (x0.length : Int) then ((bits_Sub32.f (rd x0 x5) ((x9) % 4294967296) x10).bind fun bt161 => ((some (x0.set (x5 : Int).toNat bt161.1 : List Int)).bind fun y163 => (if bt161.2 = 0 then (some ((x7) % 4294967296, y163)) else (N1step.l2 k y163 x5 x7 0 x1 (x1.length : Int) 0)))) else (none)) else (none))
def N1step.l2 : Nat → List Int → Int → Int → Int → List Int → Int → Int → Option (Int × List Int)
 | 0, _, _, _, _, _, _, _ => none
 | k + 1, x0, x5, x7, x14, x130, x131, x132 => if x132 < x131 then (if 0 ≤ x132 then (if x132 < (x130.length : Int) then (if x132 < (x0.length : Int) then ((bits_Add32.f (rd x0 x132) (rd x130 x132) x14).bind fun bt166 => (N1step.l2 k (x0.set (x132 : Int).toNat bt166.1) x5 x7 bt166.2 x130 x131 (wrap64 (x132 + 1)))) else (none)) else (none)) else (none)) else (if 0 ≤ x5 then (if x5 < (x0.length : Int) then (some ((IntKind.u64.wrap (x7 - 1)) % 4294967296, (x0.set (x5 : Int).toNat (((rd x0 x5) + x14) % 4294967296)))) else (none)) else (none))
def N1step.l0 : Nat → List Int → List Int → Int → Int → Int → Option (Int × List Int)
 | 0, _, _, _, _, _ => none
 | k + 1, x0, x1, x5, x7, x8 => if x7 ≥ 4294967296 then (N1step.j1 k x0 x1 x5 x7 x8 true) else (if 0 ≤ (wrap64 (x5 - 2)) then (if (wrap64 (x5 - 2)) < (x1.length : Int) then (if (wrap64 (x5 - 2)) < (x0.length : Int) then (N1step.j1 k x0 x1 x5 x7 x8 (decide ((IntKind.u64.wrap (x7 * (IntKind.u64.wrap (rd x1 (wrap64 (x5 - 2)))))) > (Go.bits .or .u64 (IntKind.u64.wrap (x8 * 4294967296)) (IntKind.u64.wrap (rd x0 (wrap64 (x5 - 2)))))))) else (none)) else (none)) else (none))
def N1step.j1 : Nat → List Int → List Int → Int → Int → Int → Bool → Option (Int × List Int)
 | 0, _, _, _, _, _, _ => none
 | k + 1, x0, x1, x5, x7, x8, x69 => if x69 = true then (if 0 ≤ (wrap64 (x5 - 1)) then (if (wrap64 (x5 - 1)) < (x1.length : Int) then (if (IntKind.u64.wrap (x8 + (IntKind.u64.wrap (rd x1 (wrap64 (x5 - 1)))))) ≥ 4294967296 then (N1step.j2 k x0 x1 x5 (IntKind.u64.wrap (x7 - 1))) else (N1step.l0 k x0 x1 x5 (IntKind.u64.wrap (x7 - 1)) (IntKind.u64.wrap (x8 + (IntKind.u64.wrap (rd x1 (wrap64 (x5 - 1)))))))) else (none)) else (none)) else (N1step.j2 k x0 x1 x5 x7)
end
def N1step.f (k : Nat) (l0 : List Int) (l1 : List Int) : Option (Int × List Int) := if 0 ≤ (l1.length : Int) then (if (l1.length : Int) < (l0.length : Int) then (if 0 ≤ (wrap64 ((l1.length : Int) - 1)) then (if (wrap64 ((l1.length : Int) - 1)) < (l0.length : Int) then (if (wrap64 ((l1.length : Int) - 1)) < (l1.length : Int) then (if (IntKind.u64.wrap (rd l1 (wrap64 ((l1.length : Int) - 1)))) = 0 then (none) else (N1step.l0 k l0 l1 (l1.length : Int) (IntKind.u64.wrap (Int.tdiv (Go.bits .or .u64 (IntKind.u64.wrap ((IntKind.u64.wrap (rd l0 (l1.length : Int))) * 4294967296)) (IntKind.u64.wrap (rd l0 (wrap64 ((l1.length : Int) - 1))))) (IntKind.u64.wrap (rd l1 (wrap64 ((l1.length : Int) - 1)))))) (Int.tmod (Go.bits .or .u64 (IntKind.u64.wrap ((IntKind.u64.wrap (rd l0 (l1.length : Int))) * 4294967296)) (IntKind.u64.wrap (rd l0 (wrap64 ((l1.length : Int) - 1))))) (IntKind.u64.wrap (rd l1 (wrap64 ((l1.length : Int) - 1))))))) else (none)) else (none)) else (none)) else (none)) else (none)
set_option maxHeartbeats 8000000 in
set_option maxRecDepth 100000 in
theorem N1step.calls (k : Nat) (pre_ post_ : List Int) (P0_ : Nat → Prop) (u9000_ : Value) (l0 : List Int) (A1 : Option Addr) (c1 : Nat) (l1 : List Int) (r1 : Int) (r2 : List Int) (w0 w : World) (hB : Below w0.heap.size w0 w) (ho0 : Kd.W pre_ post_ (Kd.int .u32) 86 w w0.heap.size P0_ u9000_ l0) (hr1 : ∀ W_, Kept w W_ (fun k_ => P0_ k_) → Kd.C (Kd.int .u32) W_ A1 l1.length l1) (hc1 : l1.length ≤ c1) (h : N1step.f k l0 l1 = some (r1, r2)) :
 Calls Tryd.prog 100 #[u9000_, .slice A1 l1.length c1] w fun e w' => e = .returned (.int .u32 r1) ∧ Kd.W pre_ post_ (Kd.int .u32) 86 w' w0.heap.size (fun k_ => (P0_ k_ ∨ w.heap.size ≤ k_)) u9000_ r2 ∧ Below w0.heap.size w0 w' ∧ Kept w w' (fun k_ => P0_ k_) := by
 have HO0 := Aside0.mk (show Kd.W pre_ post_ (Kd.int .u32) 86 w w0.heap.size (fun k_ => (P0_ k_ ∨ w.heap.size ≤ k_)) u9000_ l0 from Kd.W_mono ho0 (fun k_ hk => (.inl hk)))
 have HR1 := Aside0.mk hr1
 have HC1 := Aside0.mk hc1
 clear hr1 hc1
 have HK := Aside0.mk (Kept.refl w (fun k_ => P0_ k_))
 have HW0 := Aside0.mk hB.size
 have HB := Aside0.mk hB
 clear hB
 have H : (if 0 ≤ (l1.length : Int) then (if (l1.length : Int) < (l0.length : Int) then (if 0 ≤ (wrap64 ((l1.length : Int) - 1)) then (if (wrap64 ((l1.length : Int) - 1)) < (l0.length : Int) then (if (wrap64 ((l1.length : Int) - 1)) < (l1.length : Int) then (if (IntKind.u64.wrap (rd l1 (wrap64 ((l1.length : Int) - 1)))) = 0 then (none) else (N1step.l0 k l0 l1 (l1.length : Int) (IntKind.u64.wrap (Int.tdiv (Go.bits .or .u64 (IntKind.u64.wrap ((IntKind.u64.wrap (rd l0 (l1.length : Int))) * 4294967296)) (IntKind.u64.wrap (rd l0 (wrap64 ((l1.length : Int) - 1))))) (IntKind.u64.wrap (rd l1 (wrap64 ((l1.length : Int) - 1)))))) (Int.tmod (Go.bits .or .u64 (IntKind.u64.wrap ((IntKind.u64.wrap (rd l0 (l1.length : Int))) * 4294967296)) (IntKind.u64.wrap (rd l0 (wrap64 ((l1.length : Int) - 1))))) (IntKind.u64.wrap (rd l1 (wrap64 ((l1.length : Int) - 1))))))) else (none)) else (none)) else (none)) else (none)) else (none)) = some (r1, r2) := h
 clear h
 replace H := of_ite H
 obtain ⟨c3, H⟩ := H
 have c3b0 := decide_eq_true c3
 have c3b1 : decide (0 ≤ l1.length) = true := decide_eq_true (by omega)
 clear c3
 replace H := of_ite H
 obtain ⟨c4, H⟩ := H
 have c4b0 := decide_eq_true c4
 have c4b1 : decide (l1.length < l0.length) = true := decide_eq_true (Int.ofNat_lt.mp c4)
 clear c4
 obtain ⟨ji5, hji5, hji5w⟩ := jI ((l1.length : Int) - 1)
 first | rw [hji5] at H | simp only [hji5] at H
 replace H := iteD H
 obtain ⟨c6b0, H⟩ := H
 replace H := iteD H
 obtain ⟨c7b0, H⟩ := H
 replace H := iteD H
 obtain ⟨c8b0, H⟩ := H
 by_cases c9 : (IntKind.u64.wrap (rd l1 (ji5))) = 0
 ·rw [if_pos c9] at H
  exact absurd H (by simp)
 ·rw [if_neg c9] at H
  have c9b0 := beq_eq_false_iff_ne.mpr c9
  have c9b1 := bne_iff_ne.mpr c9
  have HC10 := Aside0.mk H
  clear H
  obtain ⟨Ao11, co11, eo11, _⟩ := Kd.W_slice HO0.out
  subst eo11
  obtain ⟨ad148, e148, hx148_0, p148, q148⟩ := atI (Kd.W_reads' rfl HO0.out).2.2 (l1.length : Int)
  cases e148
  (try simp only [Go.IntWalk.toNatUp] at hx148_0)
  obtain ⟨ad149, e149, hx149_0, p149, q149⟩ := atI (Kd.W_reads' rfl HO0.out).2.2 (ji5)
  obtain rfl : ad148 = ad149 := (by injection e149)
  obtain ⟨ad150, e150, hx150_0, p150, q150⟩ := atI (Kd.C_kept_now HR1.out HK.out) (ji5)
  cases e150
  obtain ⟨ad151, e151, hx151_0, p151, q151⟩ := atI (Kd.C_kept_now HR1.out HK.out) (ji5)
  obtain rfl : ad150 = ad151 := (by injection e151)
  go_enter Tryd.func100, Tryd.ntmps100
  go_upto_block 0 with (fail)
  repeat (go_quiet (fail); go_upto_block 0 with (fail))
  go_cut [7] (fun v7 wc => ∃ (kq : Nat) (x7_9 : Int), v7 = .int .u64 x7_9 ∧ Aside0 (N1step.j2 kq l0 l1 (l1.length : Int) x7_9 = some (r1, r2)) ∧ Aside0 (kq ≤ k) ∧ Aside0 (Kd.W pre_ post_ (Kd.int .u32) 86 wc w0.heap.size (fun k_ => (P0_ k_ ∨ w.heap.size ≤ k_)) (.slice (some ad148) l0.length co11) l0) ∧ Aside0 (Kept w wc (fun k_ => P0_ k_)) ∧ Aside0 (Below w0.heap.size w0 wc))
  case first =>
   have H := HC10.out
   clear HC10
   have H' := Aside0.mk H
   clear H
   go_wp2
   repeat (go_quiet (fail); try go_wp2)
   go_loopg [7, 8] k (fun kq v7 v8 w' => ∃ (x7_1 : Int) (x8_1 : Int), v7 = .int .u64 x7_1 ∧ v8 = .int .u64 x8_1 ∧ Aside0 (N1step.l0 kq l0 l1 (l1.length : Int) x7_1 x8_1 = some (r1, r2)) ∧ Aside0 (kq ≤ k) ∧ Aside0 (Kd.W pre_ post_ (Kd.int .u32) 86 w' w0.heap.size (fun k_ => (P0_ k_ ∨ w.heap.size ≤ k_)) (.slice (some ad148) l0.length co11) l0) ∧ Aside0 (Kept w w' (fun k_ => P0_ k_)) ∧ Aside0 (Below w0.heap.size w0 w'))
   case atStart => exact ⟨(IntKind.u64.wrap (Int.tdiv (Go.bits .or .u64 (IntKind.u64.wrap ((IntKind.u64.wrap (rd l0 (l1.length : Int))) * 4294967296)) (IntKind.u64.wrap (rd l0 (ji5)))) (IntKind.u64.wrap (rd l1 (ji5))))), (Int.tmod (Go.bits .or .u64 (IntKind.u64.wrap ((IntKind.u64.wrap (rd l0 (l1.length : Int))) * 4294967296)) (IntKind.u64.wrap (rd l0 (ji5)))) (IntKind.u64.wrap (rd l1 (ji5)))), (by first | rfl | (simp; done) | (simp only [← hji5] <;> (first | rfl | simp)) | (simp [*]; done)), (by first | rfl | (simp; done) | (simp only [← hji5] <;> (first | rfl | simp)) | (simp [*]; done)), H', ⟨Nat.le_refl _⟩, ⟨id (by (with_reducible repeat (first | apply Kd.W_alloc | apply Kd.W_drewN | apply Kd.W_drew)); exact HO0.out)⟩, ⟨by repeat (first | (with_reducible first | exact HK.out | apply Kept.alloc | apply Kept.drewN | apply Kept.drew) | exact HK.out)⟩, ⟨zH⟩⟩
   case round =>
    clear H'
    obtain ⟨x7_1, x8_1, rfl, rfl, HA, HK1, HO_0, HK, HB⟩ := hrel
    cases gk with
    | zero => exact absurd HA.out (by simp [N1step.l0])
    | succ k1 =>
     have H := HA.out
     clear HA
     simp only [N1step.l0] at H
     have HC12 := Aside0.mk H
     clear H
     go_upto_region 4 with (fail)
     repeat (go_quiet (fail); go_upto_region 4 with (fail))
     go_cut [69] (fun v69 wc => ∃ (kq : Nat) (x69_11 : Bool), v69 = .bool x69_11 ∧ Aside0 (N1step.j1 kq l0 l1 (l1.length : Int) x7_1 x8_1 x69_11 = some (r1, r2)) ∧ Aside0 (kq ≤ k1) ∧ Aside0 (Kd.W pre_ post_ (Kd.int .u32) 86 wc w0.heap.size (fun k_ => (P0_ k_ ∨ w.heap.size ≤ k_)) (.slice (some ad148) l0.length co11) l0) ∧ Aside0 (Kept w wc (fun k_ => P0_ k_)) ∧ Aside0 (Below w0.heap.size w0 wc))
     case first =>
      have H := HC12.out
      clear HC12
      by_cases c13 : x7_1 ≥ 4294967296
      ·rw [if_pos c13] at H
       have c13b0 := decide_eq_true c13
       clear c13
       (first | rw [c13b0] | (simp only [i64_w, i32_w]; rw [c13b0]) | rw [c13b1] | skip)
       have H' := Aside0.mk H
       clear H
       go_wp2
       repeat (go_quiet (fail); try go_wp2)
       go_meet
       case rel => exact ⟨_, (true), zq1, H', ⟨by have := HK1.out; first | omega | exact Nat.le_refl _⟩, ⟨by (with_reducible repeat (first | apply Kd.W_alloc | apply Kd.W_drewN | apply Kd.W_drew)); exact HO_0.out⟩, ⟨by repeat (first | (with_reducible first | exact HK.out | apply Kept.alloc | apply Kept.drewN | apply Kept.drew) | exact HK.out)⟩, ⟨zH⟩⟩
      ·rw [if_neg c13] at H
       have c13b0 := decide_eq_false c13
       clear c13
       (first | rw [c13b0] | (simp only [i64_w, i32_w]; rw [c13b0]) | rw [c13b1] | skip)
       obtain ⟨ji14, hji14, hji14w⟩ := jI ((l1.length : Int) - 2)
       first | rw [hji14] at H | simp only [hji14] at H
       replace H := iteD H
       obtain ⟨c15b0, H⟩ := H
       replace H := iteD H
       obtain ⟨c16b0, H⟩ := H
       replace H := iteD H
       obtain ⟨c17b0, H⟩ := H
       have H' := Aside0.mk H
       clear H
       obtain ⟨ad152, e152, hx152_0, p152, q152⟩ := atI (Kd.C_kept_now HR1.out HK.out) (ji14)
       obtain rfl : ad150 = ad152 := (by injection e152)
       obtain ⟨ad153, e153, hx153_0, p153, q153⟩ := atI (Kd.W_reads' rfl HO_0.out).2.2 (ji14)
       obtain rfl : ad148 = ad153 := (by injection e153)
       go_wp2
       repeat (go_quiet (fail); try go_wp2)
       go_meet
       case rel => exact ⟨_, (decide ((IntKind.u64.wrap (x7_1 * (IntKind.u64.wrap (rd l1 (ji14))))) > (Go.bits .or .u64 (IntKind.u64.wrap (x8_1 * 4294967296)) (IntKind.u64.wrap (rd l0 (ji14)))))), (by first | rfl | (simp; done) | (simp only [← hji14] <;> (first | rfl | simp)) | (simp [*]; done)), H', ⟨by have := HK1.out; first | omega | exact Nat.le_refl _⟩, ⟨by (with_reducible repeat (first | apply Kd.W_alloc | apply Kd.W_drewN | apply Kd.W_drew)); exact HO_0.out⟩, ⟨by repeat (first | (with_reducible first | exact HK.out | apply Kept.alloc | apply Kept.drewN | apply Kept.drew) | exact HK.out)⟩, ⟨zH⟩⟩
     case rest =>
      clear HC12
      obtain ⟨kq, x69_11, rfl, HA, HJ11, HO_0, HK, HB⟩ := hcut
      cases kq with
      | zero => exact absurd HA.out (by simp [N1step.j1])
      | succ kj11 =>
       have H := HA.out
       clear HA
       simp only [N1step.j1] at H
       by_cases c18 : x69_11 = true
       ·subst c18
        have H1 : (if 0 ≤ (wrap64 ((l1.length : Int) - 1)) then (if (wrap64 ((l1.length : Int) - 1)) < (l1.length : Int) then (if (IntKind.u64.wrap (x8_1 + (IntKind.u64.wrap (rd l1 (wrap64 ((l1.length : Int) - 1)))))) ≥ 4294967296 then (N1step.j2 kj11 l0 l1 (l1.length : Int) (IntKind.u64.wrap (x7_1 - 1))) else (N1step.l0 kj11 l0 l1 (l1.length : Int) (IntKind.u64.wrap (x7_1 - 1)) (IntKind.u64.wrap (x8_1 + (IntKind.u64.wrap (rd l1 (wrap64 ((l1.length : Int) - 1)))))))) else (none)) else (none)) = some (r1, r2) := by rw [if_pos rfl] at H; exact H
        clear H
        have H := H1
        clear H1
        obtain ⟨ji19, hji19, hji19w⟩ := jI ((l1.length : Int) - 1)
        first | rw [hji19] at H | simp only [hji19] at H
        (try clear hji5w); (try clear hji5)
        replace H := iteD H
        obtain ⟨c20b0, H⟩ := H
        replace H := iteD H
        obtain ⟨c21b0, H⟩ := H
        by_cases c22 : (IntKind.u64.wrap (x8_1 + (IntKind.u64.wrap (rd l1 (ji19))))) ≥ 4294967296
        ·rw [if_pos c22] at H
         have c22b0 := decide_eq_true c22
         clear c22
         have H' := Aside0.mk H
         clear H
         obtain ⟨ad154, e154, hx154_0, p154, q154⟩ := atI (Kd.C_kept_now HR1.out HK.out) (ji19)
         obtain rfl : ad150 = ad154 := (by injection e154)
         go_wp2
         repeat (go_quiet (fail); try go_wp2)
         go_meet
         case rel => exact ⟨_, (IntKind.u64.wrap (x7_1 - 1)), zq1, H', ⟨by have := HK1.out; have := HJ11.out; first | omega | exact Nat.le_refl _⟩, ⟨by (with_reducible repeat (first | apply Kd.W_alloc | apply Kd.W_drewN | apply Kd.W_drew)); exact HO_0.out⟩, ⟨by repeat (first | (with_reducible first | exact HK.out | apply Kept.alloc | apply Kept.drewN | apply Kept.drew) | exact HK.out)⟩, ⟨zH⟩⟩
        ·rw [if_neg c22] at H
         have c22b0 := decide_eq_false c22
         clear c22
         have H' := Aside0.mk H
         clear H
         obtain ⟨ad154, e154, hx154_0, p154, q154⟩ := atI (Kd.C_kept_now HR1.out HK.out) (ji19)
         obtain rfl : ad150 = ad154 := (by injection e154)
         go_wp2
         repeat (go_quiet (fail); try go_wp2)
         (refine Handed.intro kj11 ?measure ?_; rotate_left; go_step; (repeat apply Exists.intro); refine ⟨?rel, (by first | rfl | (simp only [add_at]; rfl))⟩)
         case measure => have := HK1.out; have := HJ11.out; omega
         case rel => exact ⟨(IntKind.u64.wrap (x7_1 - 1)), (IntKind.u64.wrap (x8_1 + (IntKind.u64.wrap (rd l1 (ji19))))), zq1, (by first | rfl | (simp; done) | (simp only [← hji19] <;> (first | rfl | simp)) | (simp [*]; done)), H', ⟨by have := HK1.out; have := HJ11.out; omega⟩, ⟨by (with_reducible repeat (first | apply Kd.W_alloc | apply Kd.W_drewN | apply Kd.W_drew)); exact HO_0.out⟩, ⟨by repeat (first | (with_reducible first | exact HK.out | apply Kept.alloc | apply Kept.drewN | apply Kept.drew) | exact HK.out)⟩, ⟨zH⟩⟩
       ·replace c18 := Bool.eq_false_iff.mpr c18
        subst c18
        have H1 : (N1step.j2 kj11 l0 l1 (l1.length : Int) x7_1) = some (r1, r2) := by rw [if_neg (show ¬ (false = true) by decide)] at H; exact H
        clear H
        have H := H1
        clear H1
        have H' := Aside0.mk H
        clear H
        go_wp2
        repeat (go_quiet (fail); try go_wp2)
        go_meet
        case rel => exact ⟨_, (x7_1), zq1, H', ⟨by have := HK1.out; have := HJ11.out; first | omega | exact Nat.le_refl _⟩, ⟨by (with_reducible repeat (first | apply Kd.W_alloc | apply Kd.W_drewN | apply Kd.W_drew)); exact HO_0.out⟩, ⟨by repeat (first | (with_reducible first | exact HK.out | apply Kept.alloc | apply Kept.drewN | apply Kept.drew) | exact HK.out)⟩, ⟨zH⟩⟩
  case rest =>
   clear HC10
   obtain ⟨kq, x7_9, rfl, HA, HJ9, HO_0, HK, HB⟩ := hcut
   cases kq with
   | zero => exact absurd HA.out (by simp [N1step.j2])
   | succ kj9 =>
    have H := HA.out
    clear HA
    simp only [N1step.j2] at H
    have H' := Aside0.mk H
    clear H
    go_wp2
    repeat (go_quiet (fail); try go_wp2)
    go_loopg [9, 10, 84] kj9 (fun kq v9 v10 v84 w' => ∃ (x0_2 : List Int) (x9_2 : Int) (x10_2 : Int) (x84_2 : Int), v9 = .int .u64 x9_2 ∧ v10 = .int .u32 x10_2 ∧ v84 = .int .i64 x84_2 ∧ Aside0 (N1step.l1 kq x0_2 l1 (l1.length : Int) x7_9 x9_2 x10_2 l1 (l1.length : Int) x84_2 = some (r1, r2)) ∧ Aside0 (kq ≤ kj9) ∧ Aside0 (Kd.W pre_ post_ (Kd.int .u32) 86 w' w0.heap.size (fun k_ => (P0_ k_ ∨ w.heap.size ≤ k_)) (.slice (some ad148) l0.length co11) x0_2) ∧ Aside0 (Kept w w' (fun k_ => P0_ k_)) ∧ Aside0 (Below w0.heap.size w0 w'))
    case atStart => exact ⟨(l0), (0), (0), (0), zq1, zq1, zq1, H', ⟨Nat.le_refl _⟩, ⟨by (with_reducible repeat (first | apply Kd.W_alloc | apply Kd.W_drewN | apply Kd.W_drew)); exact HO_0.out⟩, ⟨by repeat (first | (with_reducible first | exact HK.out | apply Kept.alloc | apply Kept.drewN | apply Kept.drew) | exact HK.out)⟩, ⟨zH⟩⟩
    case round =>
     clear H'
     obtain ⟨x0_2, x9_2, x10_2, x84_2, rfl, rfl, rfl, HA, HK2, HO_0, HK, HB⟩ := hrel
     have hl0_2 := (Kd.W_reads' rfl HO_0.out).1
     rw [hl0_2] at HO_0
     (try simp only [hl0_2])
     cases gk with
     | zero => exact absurd HA.out (by simp [N1step.l1])
     | succ k2 =>
      have H := HA.out
      clear HA
      simp only [N1step.l1] at H
      by_cases c23 : x84_2 < (l1.length : Int)
      ·rw [if_pos c23] at H
       have c23b0 := decide_eq_true c23
       (try (have c23x0 := c23b0; simp only [hl0_2] at c23x0))
       clear c23
       replace H := iteD H
       obtain ⟨c24b0, H⟩ := H
       replace H := of_ite H
       obtain ⟨c25, H⟩ := H
       have c25b0 := decide_eq_true c25
       (try (have c25x0 := c25b0; simp only [hl0_2] at c25x0))
       clear c25
       replace H := of_ite H
       obtain ⟨c26, H⟩ := H
       have c26b0 := decide_eq_true c26
       (try (have c26x0 := c26b0; simp only [hl0_2] at c26x0))
       clear c26
       replace H := bS H
       obtain ⟨⟨t157, t158⟩, A27, H⟩ := H
       (try dsimp only at H)
       obtain ⟨y159, hy159⟩ : ∃ y_ : List Int, y_ = (x0_2.set (x84_2 : Int).toNat t157) := ⟨_, rfl⟩
       (try rw [Option.bind_some] at H); (try rw [← hy159] at H)
       have Ny159 := Aside0.mk hy159
       clear hy159
       have H' := Aside0.mk H
       clear H
       obtain ⟨ad155, e155, hx155_0, p155, q155⟩ := atI (Kd.C_kept_now HR1.out HK.out) x84_2
       obtain rfl : ad150 = ad155 := (by injection e155)
       obtain ⟨ad156, e156, hx156_0, p156, q156⟩ := atI (Kd.W_reads' rfl HO_0.out).2.2 x84_2
       obtain rfl : ad148 = ad156 := (by injection e156)
       go_wp2_with (first | (go_at_call 102; (with_reducible refine (bits_Sub32.calls (rd x0_2 x84_2) ((IntKind.u64.wrap ((IntKind.u64.wrap (x7_9 * (IntKind.u64.wrap (rd l1 x84_2)))) + x9_2)) % 4294967296) x10_2 t157 t158 _ A27.out).mono ?_); rintro e w' ⟨rfl, ⟨nd, rfl⟩⟩; (try first | exact ⟨rfl, _, World.drewN_drewN _ _ _⟩ | exact ⟨rfl, _, Eq.trans (World.drewN_drewN _ _ _) (congrArg (World.drewN _) (Nat.add_assoc _ _ _))⟩); have p28 : 0 ≤ (x84_2 : Int) := of_decide_eq_true zq0; have q28 : (x84_2 : Int) < ((x0_2.length : Int) : Int) := of_decide_eq_true zq0; obtain ⟨go28, oo28, co28, eo28, gb28, gl28, cl28, HG28⟩ := Kd.W_form HO_0.out (by omega); (first | cases eo28 | (injection eo28 with ea_ en_ ec_; (first | subst ea_ | (injection ea_ with ea_; subst ea_)); subst ec_; clear en_)); have GB28 := Aside0.mk gb28; have GG28 := Aside0.mk HG28; clear gb28 gl28 HG28; have HMgo28 := Aside0.mk (show (P0_ go28 ∨ w.heap.size ≤ go28) from (HO_0.out.1 _ rfl)); (first | simp only [add_at] at hx148_0 | skip); (first | simp only [add_at] at hx149_0 | skip); (first | simp only [add_at] at hx153_0 | skip); (first | simp only [add_at] at hx156_0 | skip); obtain ⟨hx28_0, hf28_0⟩ := Kd.W_cell 0 HO_0.out (x84_2 : Int) p28 q28; replace p28 := eq_true p28; replace q28 := eq_true q28; obtain ⟨hy29_, hz29_⟩ := Kd.W_cell 0 HO_0.out (x84_2 : Int) (of_decide_eq_true zq0) (of_decide_eq_true zq0); have HP29 := Kd.W_putg HO_0.out (x84_2 : Int) (of_decide_eq_true zq0) zq13 t157) | ((with_reducible refine gate_store (t := 86) (p := 110) rfl ?_); (try (rw [drewN_self wr]; generalize hq_ : World.drewN wr _ = wr; have n0_ := Aside0.mk (Kd.W_at hq_ HO_0.out); have n1_ := Aside0.mk (kept_at hq_ HK.out); have n2_ := Aside0.mk (below_at hq_ HB.out); clear hq_ HO_0 HK HB; have HO_0 := n0_; have HK := n1_; have HB := n2_; clear n0_ n1_ n2_; (try (obtain ⟨hy29_, hz29_⟩ := Kd.W_cell 0 HO_0.out (x84_2 : Int) (of_decide_eq_true zq0) (of_decide_eq_true zq0))); (try (have HP29 := Kd.W_putg HO_0.out (x84_2 : Int) (of_decide_eq_true zq0) zq13 t157)))); refine store_event (t := 86) (p := 110) (v := ?vo_w30) (w1 := (wr.setCell ⟨go28, oo28 + (x84_2 : Int).toNat, none⟩ (.int .u32 t157))) ?hg ?ho ?hn ?hr ?_; (case ho => rfl); (case hg => rfl); (case hn => rfl); (case hr => first | (go_simp; done) | (go_simp; rfl)); intro w30 hw; have hg : wr.grownBy w30 (some go28) := (by rw [hw]; exact HP29.2); have hp_ : Kd.W pre_ post_ (Kd.int .u32) 86 w30 w0.heap.size (fun k_ => (P0_ k_ ∨ w.heap.size ≤ k_)) (.slice (some ⟨go28, oo28, none⟩) x0_2.length co11) y159 := (by rw [hw, Ny159.out]; exact HP29.1); clear HP29; have n0_ := Aside0.mk (hp_); have n1_ := Aside0.mk ((by rw [hw]; exact below_set (HB.out) GB28.out : Below w0.heap.size w0 w30)); have n2_ := Aside0.mk (Kept.of_grown (S := (fun k_ => P0_ k_)) hg zq4 (fun k_ e_ => (HO_0.out.1 k_ e_))); revert n0_ n1_ n2_; clear HO_0 HB HK; intro HO_0 HB HK; clear hg hw hp_))
       repeat (go_quiet (first | (go_at_call 102; (with_reducible refine (bits_Sub32.calls (rd x0_2 x84_2) ((IntKind.u64.wrap ((IntKind.u64.wrap (x7_9 * (IntKind.u64.wrap (rd l1 x84_2)))) + x9_2)) % 4294967296) x10_2 t157 t158 _ A27.out).mono ?_); rintro e w' ⟨rfl, ⟨nd, rfl⟩⟩; (try first | exact ⟨rfl, _, World.drewN_drewN _ _ _⟩ | exact ⟨rfl, _, Eq.trans (World.drewN_drewN _ _ _) (congrArg (World.drewN _) (Nat.add_assoc _ _ _))⟩); have p28 : 0 ≤ (x84_2 : Int) := of_decide_eq_true zq0; have q28 : (x84_2 : Int) < ((x0_2.length : Int) : Int) := of_decide_eq_true zq0; obtain ⟨go28, oo28, co28, eo28, gb28, gl28, cl28, HG28⟩ := Kd.W_form HO_0.out (by omega); (first | cases eo28 | (injection eo28 with ea_ en_ ec_; (first | subst ea_ | (injection ea_ with ea_; subst ea_)); subst ec_; clear en_)); have GB28 := Aside0.mk gb28; have GG28 := Aside0.mk HG28; clear gb28 gl28 HG28; have HMgo28 := Aside0.mk (show (P0_ go28 ∨ w.heap.size ≤ go28) from (HO_0.out.1 _ rfl)); (first | simp only [add_at] at hx148_0 | skip); (first | simp only [add_at] at hx149_0 | skip); (first | simp only [add_at] at hx153_0 | skip); (first | simp only [add_at] at hx156_0 | skip); obtain ⟨hx28_0, hf28_0⟩ := Kd.W_cell 0 HO_0.out (x84_2 : Int) p28 q28; replace p28 := eq_true p28; replace q28 := eq_true q28; obtain ⟨hy29_, hz29_⟩ := Kd.W_cell 0 HO_0.out (x84_2 : Int) (of_decide_eq_true zq0) (of_decide_eq_true zq0); have HP29 := Kd.W_putg HO_0.out (x84_2 : Int) (of_decide_eq_true zq0) zq13 t157) | ((with_reducible refine gate_store (t := 86) (p := 110) rfl ?_); (try (rw [drewN_self wr]; generalize hq_ : World.drewN wr _ = wr; have n0_ := Aside0.mk (Kd.W_at hq_ HO_0.out); have n1_ := Aside0.mk (kept_at hq_ HK.out); have n2_ := Aside0.mk (below_at hq_ HB.out); clear hq_ HO_0 HK HB; have HO_0 := n0_; have HK := n1_; have HB := n2_; clear n0_ n1_ n2_; (try (obtain ⟨hy29_, hz29_⟩ := Kd.W_cell 0 HO_0.out (x84_2 : Int) (of_decide_eq_true zq0) (of_decide_eq_true zq0))); (try (have HP29 := Kd.W_putg HO_0.out (x84_2 : Int) (of_decide_eq_true zq0) zq13 t157)))); refine store_event (t := 86) (p := 110) (v := ?vo_w30) (w1 := (wr.setCell ⟨go28, oo28 + (x84_2 : Int).toNat, none⟩ (.int .u32 t157))) ?hg ?ho ?hn ?hr ?_; (case ho => rfl); (case hg => rfl); (case hn => rfl); (case hr => first | (go_simp; done) | (go_simp; rfl)); intro w30 hw; have hg : wr.grownBy w30 (some go28) := (by rw [hw]; exact HP29.2); have hp_ : Kd.W pre_ post_ (Kd.int .u32) 86 w30 w0.heap.size (fun k_ => (P0_ k_ ∨ w.heap.size ≤ k_)) (.slice (some ⟨go28, oo28, none⟩) x0_2.length co11) y159 := (by rw [hw, Ny159.out]; exact HP29.1); clear HP29; have n0_ := Aside0.mk (hp_); have n1_ := Aside0.mk ((by rw [hw]; exact below_set (HB.out) GB28.out : Below w0.heap.size w0 w30)); have n2_ := Aside0.mk (Kept.of_grown (S := (fun k_ => P0_ k_)) hg zq4 (fun k_ e_ => (HO_0.out.1 k_ e_))); revert n0_ n1_ n2_; clear HO_0 HB HK; intro HO_0 HB HK; clear hg hw hp_)); try go_wp2_with (first | (go_at_call 102; (with_reducible refine (bits_Sub32.calls (rd x0_2 x84_2) ((IntKind.u64.wrap ((IntKind.u64.wrap (x7_9 * (IntKind.u64.wrap (rd l1 x84_2)))) + x9_2)) % 4294967296) x10_2 t157 t158 _ A27.out).mono ?_); rintro e w' ⟨rfl, ⟨nd, rfl⟩⟩; (try first | exact ⟨rfl, _, World.drewN_drewN _ _ _⟩ | exact ⟨rfl, _, Eq.trans (World.drewN_drewN _ _ _) (congrArg (World.drewN _) (Nat.add_assoc _ _ _))⟩); have p28 : 0 ≤ (x84_2 : Int) := of_decide_eq_true zq0; have q28 : (x84_2 : Int) < ((x0_2.length : Int) : Int) := of_decide_eq_true zq0; obtain ⟨go28, oo28, co28, eo28, gb28, gl28, cl28, HG28⟩ := Kd.W_form HO_0.out (by omega); (first | cases eo28 | (injection eo28 with ea_ en_ ec_; (first | subst ea_ | (injection ea_ with ea_; subst ea_)); subst ec_; clear en_)); have GB28 := Aside0.mk gb28; have GG28 := Aside0.mk HG28; clear gb28 gl28 HG28; have HMgo28 := Aside0.mk (show (P0_ go28 ∨ w.heap.size ≤ go28) from (HO_0.out.1 _ rfl)); (first | simp only [add_at] at hx148_0 | skip); (first | simp only [add_at] at hx149_0 | skip); (first | simp only [add_at] at hx153_0 | skip); (first | simp only [add_at] at hx156_0 | skip); obtain ⟨hx28_0, hf28_0⟩ := Kd.W_cell 0 HO_0.out (x84_2 : Int) p28 q28; replace p28 := eq_true p28; replace q28 := eq_true q28; obtain ⟨hy29_, hz29_⟩ := Kd.W_cell 0 HO_0.out (x84_2 : Int) (of_decide_eq_true zq0) (of_decide_eq_true zq0); have HP29 := Kd.W_putg HO_0.out (x84_2 : Int) (of_decide_eq_true zq0) zq13 t157) | ((with_reducible refine gate_store (t := 86) (p := 110) rfl ?_); (try (rw [drewN_self wr]; generalize hq_ : World.drewN wr _ = wr; have n0_ := Aside0.mk (Kd.W_at hq_ HO_0.out); have n1_ := Aside0.mk (kept_at hq_ HK.out); have n2_ := Aside0.mk (below_at hq_ HB.out); clear hq_ HO_0 HK HB; have HO_0 := n0_; have HK := n1_; have HB := n2_; clear n0_ n1_ n2_; (try (obtain ⟨hy29_, hz29_⟩ := Kd.W_cell 0 HO_0.out (x84_2 : Int) (of_decide_eq_true zq0) (of_decide_eq_true zq0))); (try (have HP29 := Kd.W_putg HO_0.out (x84_2 : Int) (of_decide_eq_true zq0) zq13 t157)))); refine store_event (t := 86) (p := 110) (v := ?vo_w30) (w1 := (wr.setCell ⟨go28, oo28 + (x84_2 : Int).toNat, none⟩ (.int .u32 t157))) ?hg ?ho ?hn ?hr ?_; (case ho => rfl); (case hg => rfl); (case hn => rfl); (case hr => first | (go_simp; done) | (go_simp; rfl)); intro w30 hw; have hg : wr.grownBy w30 (some go28) := (by rw [hw]; exact HP29.2); have hp_ : Kd.W pre_ post_ (Kd.int .u32) 86 w30 w0.heap.size (fun k_ => (P0_ k_ ∨ w.heap.size ≤ k_)) (.slice (some ⟨go28, oo28, none⟩) x0_2.length co11) y159 := (by rw [hw, Ny159.out]; exact HP29.1); clear HP29; have n0_ := Aside0.mk (hp_); have n1_ := Aside0.mk ((by rw [hw]; exact below_set (HB.out) GB28.out : Below w0.heap.size w0 w30)); have n2_ := Aside0.mk (Kept.of_grown (S := (fun k_ => P0_ k_)) hg zq4 (fun k_ e_ => (HO_0.out.1 k_ e_))); revert n0_ n1_ n2_; clear HO_0 HB HK; intro HO_0 HB HK; clear hg hw hp_)))
       (try simp only [← hl0_2])
       (refine Handed.intro k2 ?measure ?_; rotate_left; go_step; (repeat apply Exists.intro); refine ⟨?rel, (by first | rfl | (simp only [add_at]; rfl))⟩)
       case measure => have := HJ9.out; have := HK2.out; omega
       case rel => exact ⟨(y159), ((IntKind.u64.wrap ((IntKind.u64.wrap (x7_9 * (IntKind.u64.wrap (rd l1 x84_2)))) + x9_2)) / 4294967296), (t158), (wrap64 (x84_2 + 1)), zq1, zq1, zq1, H', ⟨by have := HJ9.out; have := HK2.out; omega⟩, ⟨by (try simp only [hl0_2]); (with_reducible repeat (first | apply Kd.W_alloc | apply Kd.W_drewN | apply Kd.W_drew)); exact HO_0.out⟩, ⟨by repeat (first | (with_reducible first | exact HK.out | apply Kept.alloc | apply Kept.drewN | apply Kept.drew) | exact HK.out)⟩, ⟨zH⟩⟩
      ·rw [if_neg c23] at H
       have c23b0 := decide_eq_false c23
       (try (have c23x0 := c23b0; simp only [hl0_2] at c23x0))
       clear c23
       replace H := of_ite H
       obtain ⟨c31, H⟩ := H
       have c31b0 := decide_eq_true c31
       have c31b1 : decide (0 ≤ l1.length) = true := decide_eq_true (by omega)
       (try (have c31x0 := c31b0; simp only [hl0_2] at c31x0))
       (try (have c31x1 := c31b1; simp only [hl0_2] at c31x1))
       clear c31
       replace H := of_ite H
       obtain ⟨c32, H⟩ := H
       have c32b0 := decide_eq_true c32
       have c32b1 : decide (l1.length < x0_2.length) = true := decide_eq_true (Int.ofNat_lt.mp c32)
       (try (have c32x0 := c32b0; simp only [hl0_2] at c32x0))
       (try (have c32x1 := c32b1; simp only [hl0_2] at c32x1))
       clear c32
       replace H := bS H
       obtain ⟨⟨t161, t162⟩, A33, H⟩ := H
       (try dsimp only at H)
       obtain ⟨y163, hy163⟩ : ∃ y_ : List Int, y_ = (x0_2.set ((l1.length : Int) : Int).toNat t161) := ⟨_, rfl⟩
       (try rw [Option.bind_some] at H); (try rw [← hy163] at H)
       have Ny163 := Aside0.mk hy163
       clear hy163
       by_cases c35 : t162 = 0
       ·rw [if_pos c35] at H
        have c35b0 := beq_iff_eq.mpr c35
        have c35b1 : (t162 != 0) = false := bne_eq_false_iff_eq.mpr c35
        clear c35
        simp only [Option.some.injEq, Prod.mk.injEq] at H
        obtain ⟨rfl, rfl⟩ := H
        have p160 : 0 ≤ ((l1.length : Int) : Int) := of_decide_eq_true zq0
        have q160 : (l1.length : Int) < (x0_2.length : Int) := of_decide_eq_true zq0
        obtain ⟨ad160, e160, hx160_0⟩ := Kd.at_int (Kd.W_reads' rfl HO_0.out).2.2 (l1.length : Int) p160 q160
        obtain rfl : ad148 = ad160 := (by injection e160)
        (try simp only [Go.IntWalk.toNatUp] at hx160_0)
        (try simp only [hl0_2] at p160)
        (try simp only [hl0_2] at q160)
        (try simp only [hl0_2] at hx160_0)
        replace p160 := eq_true p160
        replace q160 := eq_true q160
        go_wp2_with (first | (go_at_call 102; (with_reducible refine (bits_Sub32.calls (rd x0_2 (l1.length : Int)) ((x9_2) % 4294967296) x10_2 t161 t162 _ A33.out).mono ?_); rintro e w' ⟨rfl, ⟨nd, rfl⟩⟩; (try first | exact ⟨rfl, _, World.drewN_drewN _ _ _⟩ | exact ⟨rfl, _, Eq.trans (World.drewN_drewN _ _ _) (congrArg (World.drewN _) (Nat.add_assoc _ _ _))⟩); have p34 : 0 ≤ ((l1.length : Int) : Int) := of_decide_eq_true zq0; have q34 : ((l1.length : Int) : Int) < ((x0_2.length : Int) : Int) := of_decide_eq_true zq0; obtain ⟨go34, oo34, co34, eo34, gb34, gl34, cl34, HG34⟩ := Kd.W_form HO_0.out (by omega); (first | cases eo34 | (injection eo34 with ea_ en_ ec_; (first | subst ea_ | (injection ea_ with ea_; subst ea_)); subst ec_; clear en_)); have GB34 := Aside0.mk gb34; have GG34 := Aside0.mk HG34; clear gb34 gl34 HG34; have HMgo34 := Aside0.mk (show (P0_ go34 ∨ w.heap.size ≤ go34) from (HO_0.out.1 _ rfl)); (first | simp only [add_at] at hx160_0 | skip); obtain ⟨hx34_0, hf34_0⟩ := Kd.W_cell 0 HO_0.out ((l1.length : Int) : Int) p34 q34; replace p34 := eq_true p34; replace q34 := eq_true q34; obtain ⟨hy36_, hz36_⟩ := Kd.W_cell 0 HO_0.out ((l1.length : Int) : Int) (of_decide_eq_true zq0) (of_decide_eq_true zq0); (try simp only [Go.IntWalk.toNatUp] at hy36_ hz36_); have HP36 := Kd.W_putg HO_0.out ((l1.length : Int) : Int) (of_decide_eq_true zq0) zq5 t161) | ((with_reducible refine gate_store (t := 86) (p := 125) rfl ?_); (try (rw [drewN_self wr]; generalize hq_ : World.drewN wr _ = wr; have n0_ := Aside0.mk (Kd.W_at hq_ HO_0.out); have n1_ := Aside0.mk (kept_at hq_ HK.out); have n2_ := Aside0.mk (below_at hq_ HB.out); clear hq_ HO_0 HK HB; have HO_0 := n0_; have HK := n1_; have HB := n2_; clear n0_ n1_ n2_; (try (obtain ⟨hy36_, hz36_⟩ := Kd.W_cell 0 HO_0.out ((l1.length : Int) : Int) (of_decide_eq_true zq0) (of_decide_eq_true zq0))); (try (try simp only [Go.IntWalk.toNatUp] at hy36_ hz36_)); (try (have HP36 := Kd.W_putg HO_0.out ((l1.length : Int) : Int) (of_decide_eq_true zq0) zq5 t161)))); refine store_event (t := 86) (p := 125) (v := ?vo_w37) (w1 := (wr.setCell ⟨go34, oo34 + ((l1.length : Int) : Int).toNat, none⟩ (.int .u32 t161))) ?hg ?ho ?hn ?hr ?_; (case ho => rfl); (case hg => rfl); (case hn => rfl); (case hr => first | (go_simp; done) | (go_simp; rfl)); intro w37 hw; have hg : wr.grownBy w37 (some go34) := (by rw [hw]; exact HP36.2); have hp_ : Kd.W pre_ post_ (Kd.int .u32) 86 w37 w0.heap.size (fun k_ => (P0_ k_ ∨ w.heap.size ≤ k_)) (.slice (some ⟨go34, oo34, none⟩) x0_2.length co11) y163 := (by rw [hw, Ny163.out]; exact HP36.1); clear HP36; have n0_ := Aside0.mk (hp_); have n1_ := Aside0.mk ((by rw [hw]; exact below_set (HB.out) GB34.out : Below w0.heap.size w0 w37)); have n2_ := Aside0.mk (Kept.of_grown (S := (fun k_ => P0_ k_)) hg zq4 (fun k_ e_ => (HO_0.out.1 k_ e_))); revert n0_ n1_ n2_; clear HO_0 HB HK; intro HO_0 HB HK; clear hg hw hp_))
        repeat (go_quiet (first | (go_at_call 102; (with_reducible refine (bits_Sub32.calls (rd x0_2 (l1.length : Int)) ((x9_2) % 4294967296) x10_2 t161 t162 _ A33.out).mono ?_); rintro e w' ⟨rfl, ⟨nd, rfl⟩⟩; (try first | exact ⟨rfl, _, World.drewN_drewN _ _ _⟩ | exact ⟨rfl, _, Eq.trans (World.drewN_drewN _ _ _) (congrArg (World.drewN _) (Nat.add_assoc _ _ _))⟩); have p34 : 0 ≤ ((l1.length : Int) : Int) := of_decide_eq_true zq0; have q34 : ((l1.length : Int) : Int) < ((x0_2.length : Int) : Int) := of_decide_eq_true zq0; obtain ⟨go34, oo34, co34, eo34, gb34, gl34, cl34, HG34⟩ := Kd.W_form HO_0.out (by omega); (first | cases eo34 | (injection eo34 with ea_ en_ ec_; (first | subst ea_ | (injection ea_ with ea_; subst ea_)); subst ec_; clear en_)); have GB34 := Aside0.mk gb34; have GG34 := Aside0.mk HG34; clear gb34 gl34 HG34; have HMgo34 := Aside0.mk (show (P0_ go34 ∨ w.heap.size ≤ go34) from (HO_0.out.1 _ rfl)); (first | simp only [add_at] at hx160_0 | skip); obtain ⟨hx34_0, hf34_0⟩ := Kd.W_cell 0 HO_0.out ((l1.length : Int) : Int) p34 q34; replace p34 := eq_true p34; replace q34 := eq_true q34; obtain ⟨hy36_, hz36_⟩ := Kd.W_cell 0 HO_0.out ((l1.length : Int) : Int) (of_decide_eq_true zq0) (of_decide_eq_true zq0); (try simp only [Go.IntWalk.toNatUp] at hy36_ hz36_); have HP36 := Kd.W_putg HO_0.out ((l1.length : Int) : Int) (of_decide_eq_true zq0) zq5 t161) | ((with_reducible refine gate_store (t := 86) (p := 125) rfl ?_); (try (rw [drewN_self wr]; generalize hq_ : World.drewN wr _ = wr; have n0_ := Aside0.mk (Kd.W_at hq_ HO_0.out); have n1_ := Aside0.mk (kept_at hq_ HK.out); have n2_ := Aside0.mk (below_at hq_ HB.out); clear hq_ HO_0 HK HB; have HO_0 := n0_; have HK := n1_; have HB := n2_; clear n0_ n1_ n2_; (try (obtain ⟨hy36_, hz36_⟩ := Kd.W_cell 0 HO_0.out ((l1.length : Int) : Int) (of_decide_eq_true zq0) (of_decide_eq_true zq0))); (try (try simp only [Go.IntWalk.toNatUp] at hy36_ hz36_)); (try (have HP36 := Kd.W_putg HO_0.out ((l1.length : Int) : Int) (of_decide_eq_true zq0) zq5 t161)))); refine store_event (t := 86) (p := 125) (v := ?vo_w37) (w1 := (wr.setCell ⟨go34, oo34 + ((l1.length : Int) : Int).toNat, none⟩ (.int .u32 t161))) ?hg ?ho ?hn ?hr ?_; (case ho => rfl); (case hg => rfl); (case hn => rfl); (case hr => first | (go_simp; done) | (go_simp; rfl)); intro w37 hw; have hg : wr.grownBy w37 (some go34) := (by rw [hw]; exact HP36.2); have hp_ : Kd.W pre_ post_ (Kd.int .u32) 86 w37 w0.heap.size (fun k_ => (P0_ k_ ∨ w.heap.size ≤ k_)) (.slice (some ⟨go34, oo34, none⟩) x0_2.length co11) y163 := (by rw [hw, Ny163.out]; exact HP36.1); clear HP36; have n0_ := Aside0.mk (hp_); have n1_ := Aside0.mk ((by rw [hw]; exact below_set (HB.out) GB34.out : Below w0.heap.size w0 w37)); have n2_ := Aside0.mk (Kept.of_grown (S := (fun k_ => P0_ k_)) hg zq4 (fun k_ e_ => (HO_0.out.1 k_ e_))); revert n0_ n1_ n2_; clear HO_0 HB HK; intro HO_0 HB HK; clear hg hw hp_)); try go_wp2_with (first | (go_at_call 102; (with_reducible refine (bits_Sub32.calls (rd x0_2 (l1.length : Int)) ((x9_2) % 4294967296) x10_2 t161 t162 _ A33.out).mono ?_); rintro e w' ⟨rfl, ⟨nd, rfl⟩⟩; (try first | exact ⟨rfl, _, World.drewN_drewN _ _ _⟩ | exact ⟨rfl, _, Eq.trans (World.drewN_drewN _ _ _) (congrArg (World.drewN _) (Nat.add_assoc _ _ _))⟩); have p34 : 0 ≤ ((l1.length : Int) : Int) := of_decide_eq_true zq0; have q34 : ((l1.length : Int) : Int) < ((x0_2.length : Int) : Int) := of_decide_eq_true zq0; obtain ⟨go34, oo34, co34, eo34, gb34, gl34, cl34, HG34⟩ := Kd.W_form HO_0.out (by omega); (first | cases eo34 | (injection eo34 with ea_ en_ ec_; (first | subst ea_ | (injection ea_ with ea_; subst ea_)); subst ec_; clear en_)); have GB34 := Aside0.mk gb34; have GG34 := Aside0.mk HG34; clear gb34 gl34 HG34; have HMgo34 := Aside0.mk (show (P0_ go34 ∨ w.heap.size ≤ go34) from (HO_0.out.1 _ rfl)); (first | simp only [add_at] at hx160_0 | skip); obtain ⟨hx34_0, hf34_0⟩ := Kd.W_cell 0 HO_0.out ((l1.length : Int) : Int) p34 q34; replace p34 := eq_true p34; replace q34 := eq_true q34; obtain ⟨hy36_, hz36_⟩ := Kd.W_cell 0 HO_0.out ((l1.length : Int) : Int) (of_decide_eq_true zq0) (of_decide_eq_true zq0); (try simp only [Go.IntWalk.toNatUp] at hy36_ hz36_); have HP36 := Kd.W_putg HO_0.out ((l1.length : Int) : Int) (of_decide_eq_true zq0) zq5 t161) | ((with_reducible refine gate_store (t := 86) (p := 125) rfl ?_); (try (rw [drewN_self wr]; generalize hq_ : World.drewN wr _ = wr; have n0_ := Aside0.mk (Kd.W_at hq_ HO_0.out); have n1_ := Aside0.mk (kept_at hq_ HK.out); have n2_ := Aside0.mk (below_at hq_ HB.out); clear hq_ HO_0 HK HB; have HO_0 := n0_; have HK := n1_; have HB := n2_; clear n0_ n1_ n2_; (try (obtain ⟨hy36_, hz36_⟩ := Kd.W_cell 0 HO_0.out ((l1.length : Int) : Int) (of_decide_eq_true zq0) (of_decide_eq_true zq0))); (try (try simp only [Go.IntWalk.toNatUp] at hy36_ hz36_)); (try (have HP36 := Kd.W_putg HO_0.out ((l1.length : Int) : Int) (of_decide_eq_true zq0) zq5 t161)))); refine store_event (t := 86) (p := 125) (v := ?vo_w37) (w1 := (wr.setCell ⟨go34, oo34 + ((l1.length : Int) : Int).toNat, none⟩ (.int .u32 t161))) ?hg ?ho ?hn ?hr ?_; (case ho => rfl); (case hg => rfl); (case hn => rfl); (case hr => first | (go_simp; done) | (go_simp; rfl)); intro w37 hw; have hg : wr.grownBy w37 (some go34) := (by rw [hw]; exact HP36.2); have hp_ : Kd.W pre_ post_ (Kd.int .u32) 86 w37 w0.heap.size (fun k_ => (P0_ k_ ∨ w.heap.size ≤ k_)) (.slice (some ⟨go34, oo34, none⟩) x0_2.length co11) y163 := (by rw [hw, Ny163.out]; exact HP36.1); clear HP36; have n0_ := Aside0.mk (hp_); have n1_ := Aside0.mk ((by rw [hw]; exact below_set (HB.out) GB34.out : Below w0.heap.size w0 w37)); have n2_ := Aside0.mk (Kept.of_grown (S := (fun k_ => P0_ k_)) hg zq4 (fun k_ e_ => (HO_0.out.1 k_ e_))); revert n0_ n1_ n2_; clear HO_0 HB HK; intro HO_0 HB HK; clear hg hw hp_)))
        go_ret
        exact ⟨by first | rfl | (simp [errW_none, errW_some] <;> rfl) | (simp only [← hji5]; first | rfl | (simp [errW_none, errW_some] <;> rfl)) | (simp [*, errW_none, errW_some] <;> rfl), (by first | exact zq20 | (simp only [hl0_2]; exact zq20)), zH, by repeat (first | (with_reducible first | exact HK.out | apply Kept.alloc | apply Kept.drewN | apply Kept.drew) | exact HK.out)⟩
       ·rw [if_neg c35] at H
        have c35b0 := beq_eq_false_iff_ne.mpr c35
        have c35b1 := bne_iff_ne.mpr c35
        have H' := Aside0.mk H
        clear H
        have p160 : 0 ≤ ((l1.length : Int) : Int) := of_decide_eq_true zq0
        have q160 : (l1.length : Int) < (x0_2.length : Int) := of_decide_eq_true zq0
        obtain ⟨ad160, e160, hx160_0⟩ := Kd.at_int (Kd.W_reads' rfl HO_0.out).2.2 (l1.length : Int) p160 q160
        obtain rfl : ad148 = ad160 := (by injection e160)
        (try simp only [Go.IntWalk.toNatUp] at hx160_0)
        (try simp only [hl0_2] at p160)
        (try simp only [hl0_2] at q160)
        (try simp only [hl0_2] at hx160_0)
        replace p160 := eq_true p160
        replace q160 := eq_true q160
        go_wp2_with (first | (go_at_call 102; (with_reducible refine (bits_Sub32.calls (rd x0_2 (l1.length : Int)) ((x9_2) % 4294967296) x10_2 t161 t162 _ A33.out).mono ?_); rintro e w' ⟨rfl, ⟨nd, rfl⟩⟩; (try first | exact ⟨rfl, _, World.drewN_drewN _ _ _⟩ | exact ⟨rfl, _, Eq.trans (World.drewN_drewN _ _ _) (congrArg (World.drewN _) (Nat.add_assoc _ _ _))⟩); have p34 : 0 ≤ ((l1.length : Int) : Int) := of_decide_eq_true zq0; have q34 : ((l1.length : Int) : Int) < ((x0_2.length : Int) : Int) := of_decide_eq_true zq0; obtain ⟨go34, oo34, co34, eo34, gb34, gl34, cl34, HG34⟩ := Kd.W_form HO_0.out (by omega); (first | cases eo34 | (injection eo34 with ea_ en_ ec_; (first | subst ea_ | (injection ea_ with ea_; subst ea_)); subst ec_; clear en_)); have GB34 := Aside0.mk gb34; have GG34 := Aside0.mk HG34; clear gb34 gl34 HG34; have HMgo34 := Aside0.mk (show (P0_ go34 ∨ w.heap.size ≤ go34) from (HO_0.out.1 _ rfl)); (first | simp only [add_at] at hx160_0 | skip); obtain ⟨hx34_0, hf34_0⟩ := Kd.W_cell 0 HO_0.out ((l1.length : Int) : Int) p34 q34; replace p34 := eq_true p34; replace q34 := eq_true q34; obtain ⟨hy38_, hz38_⟩ := Kd.W_cell 0 HO_0.out ((l1.length : Int) : Int) (of_decide_eq_true zq0) (of_decide_eq_true zq0); (try simp only [Go.IntWalk.toNatUp] at hy38_ hz38_); have HP38 := Kd.W_putg HO_0.out ((l1.length : Int) : Int) (of_decide_eq_true zq0) zq5 t161) | ((with_reducible refine gate_store (t := 86) (p := 125) rfl ?_); (try (rw [drewN_self wr]; generalize hq_ : World.drewN wr _ = wr; have n0_ := Aside0.mk (Kd.W_at hq_ HO_0.out); have n1_ := Aside0.mk (kept_at hq_ HK.out); have n2_ := Aside0.mk (below_at hq_ HB.out); clear hq_ HO_0 HK HB; have HO_0 := n0_; have HK := n1_; have HB := n2_; clear n0_ n1_ n2_; (try (obtain ⟨hy38_, hz38_⟩ := Kd.W_cell 0 HO_0.out ((l1.length : Int) : Int) (of_decide_eq_true zq0) (of_decide_eq_true zq0))); (try (try simp only [Go.IntWalk.toNatUp] at hy38_ hz38_)); (try (have HP38 := Kd.W_putg HO_0.out ((l1.length : Int) : Int) (of_decide_eq_true zq0) zq5 t161)))); refine store_event (t := 86) (p := 125) (v := ?vo_w39) (w1 := (wr.setCell ⟨go34, oo34 + ((l1.length : Int) : Int).toNat, none⟩ (.int .u32 t161))) ?hg ?ho ?hn ?hr ?_; (case ho => rfl); (case hg => rfl); (case hn => rfl); (case hr => first | (go_simp; done) | (go_simp; rfl)); intro w39 hw; have hg : wr.grownBy w39 (some go34) := (by rw [hw]; exact HP38.2); have hp_ : Kd.W pre_ post_ (Kd.int .u32) 86 w39 w0.heap.size (fun k_ => (P0_ k_ ∨ w.heap.size ≤ k_)) (.slice (some ⟨go34, oo34, none⟩) x0_2.length co11) y163 := (by rw [hw, Ny163.out]; exact HP38.1); clear HP38; have n0_ := Aside0.mk (hp_); have n1_ := Aside0.mk ((by rw [hw]; exact below_set (HB.out) GB34.out : Below w0.heap.size w0 w39)); have n2_ := Aside0.mk (Kept.of_grown (S := (fun k_ => P0_ k_)) hg zq4 (fun k_ e_ => (HO_0.out.1 k_ e_))); revert n0_ n1_ n2_; clear HO_0 HB HK; intro HO_0 HB HK; clear hg hw hp_))
        repeat (go_quiet (first | (go_at_call 102; (with_reducible refine (bits_Sub32.calls (rd x0_2 (l1.length : Int)) ((x9_2) % 4294967296) x10_2 t161 t162 _ A33.out).mono ?_); rintro e w' ⟨rfl, ⟨nd, rfl⟩⟩; (try first | exact ⟨rfl, _, World.drewN_drewN _ _ _⟩ | exact ⟨rfl, _, Eq.trans (World.drewN_drewN _ _ _) (congrArg (World.drewN _) (Nat.add_assoc _ _ _))⟩); have p34 : 0 ≤ ((l1.length : Int) : Int) := of_decide_eq_true zq0; have q34 : ((l1.length : Int) : Int) < ((x0_2.length : Int) : Int) := of_decide_eq_true zq0; obtain ⟨go34, oo34, co34, eo34, gb34, gl34, cl34, HG34⟩ := Kd.W_form HO_0.out (by omega); (first | cases eo34 | (injection eo34 with ea_ en_ ec_; (first | subst ea_ | (injection ea_ with ea_; subst ea_)); subst ec_; clear en_)); have GB34 := Aside0.mk gb34; have GG34 := Aside0.mk HG34; clear gb34 gl34 HG34; have HMgo34 := Aside0.mk (show (P0_ go34 ∨ w.heap.size ≤ go34) from (HO_0.out.1 _ rfl)); (first | simp only [add_at] at hx160_0 | skip); obtain ⟨hx34_0, hf34_0⟩ := Kd.W_cell 0 HO_0.out ((l1.length : Int) : Int) p34 q34; replace p34 := eq_true p34; replace q34 := eq_true q34; obtain ⟨hy38_, hz38_⟩ := Kd.W_cell 0 HO_0.out ((l1.length : Int) : Int) (of_decide_eq_true zq0) (of_decide_eq_true zq0); (try simp only [Go.IntWalk.toNatUp] at hy38_ hz38_); have HP38 := Kd.W_putg HO_0.out ((l1.length : Int) : Int) (of_decide_eq_true zq0) zq5 t161) | ((with_reducible refine gate_store (t := 86) (p := 125) rfl ?_); (try (rw [drewN_self wr]; generalize hq_ : World.drewN wr _ = wr; have n0_ := Aside0.mk (Kd.W_at hq_ HO_0.out); have n1_ := Aside0.mk (kept_at hq_ HK.out); have n2_ := Aside0.mk (below_at hq_ HB.out); clear hq_ HO_0 HK HB; have HO_0 := n0_; have HK := n1_; have HB := n2_; clear n0_ n1_ n2_; (try (obtain ⟨hy38_, hz38_⟩ := Kd.W_cell 0 HO_0.out ((l1.length : Int) : Int) (of_decide_eq_true zq0) (of_decide_eq_true zq0))); (try (try simp only [Go.IntWalk.toNatUp] at hy38_ hz38_)); (try (have HP38 := Kd.W_putg HO_0.out ((l1.length : Int) : Int) (of_decide_eq_true zq0) zq5 t161)))); refine store_event (t := 86) (p := 125) (v := ?vo_w39) (w1 := (wr.setCell ⟨go34, oo34 + ((l1.length : Int) : Int).toNat, none⟩ (.int .u32 t161))) ?hg ?ho ?hn ?hr ?_; (case ho => rfl); (case hg => rfl); (case hn => rfl); (case hr => first | (go_simp; done) | (go_simp; rfl)); intro w39 hw; have hg : wr.grownBy w39 (some go34) := (by rw [hw]; exact HP38.2); have hp_ : Kd.W pre_ post_ (Kd.int .u32) 86 w39 w0.heap.size (fun k_ => (P0_ k_ ∨ w.heap.size ≤ k_)) (.slice (some ⟨go34, oo34, none⟩) x0_2.length co11) y163 := (by rw [hw, Ny163.out]; exact HP38.1); clear HP38; have n0_ := Aside0.mk (hp_); have n1_ := Aside0.mk ((by rw [hw]; exact below_set (HB.out) GB34.out : Below w0.heap.size w0 w39)); have n2_ := Aside0.mk (Kept.of_grown (S := (fun k_ => P0_ k_)) hg zq4 (fun k_ e_ => (HO_0.out.1 k_ e_))); revert n0_ n1_ n2_; clear HO_0 HB HK; intro HO_0 HB HK; clear hg hw hp_)); try go_wp2_with (first | (go_at_call 102; (with_reducible refine (bits_Sub32.calls (rd x0_2 (l1.length : Int)) ((x9_2) % 4294967296) x10_2 t161 t162 _ A33.out).mono ?_); rintro e w' ⟨rfl, ⟨nd, rfl⟩⟩; (try first | exact ⟨rfl, _, World.drewN_drewN _ _ _⟩ | exact ⟨rfl, _, Eq.trans (World.drewN_drewN _ _ _) (congrArg (World.drewN _) (Nat.add_assoc _ _ _))⟩); have p34 : 0 ≤ ((l1.length : Int) : Int) := of_decide_eq_true zq0; have q34 : ((l1.length : Int) : Int) < ((x0_2.length : Int) : Int) := of_decide_eq_true zq0; obtain ⟨go34, oo34, co34, eo34, gb34, gl34, cl34, HG34⟩ := Kd.W_form HO_0.out (by omega); (first | cases eo34 | (injection eo34 with ea_ en_ ec_; (first | subst ea_ | (injection ea_ with ea_; subst ea_)); subst ec_; clear en_)); have GB34 := Aside0.mk gb34; have GG34 := Aside0.mk HG34; clear gb34 gl34 HG34; have HMgo34 := Aside0.mk (show (P0_ go34 ∨ w.heap.size ≤ go34) from (HO_0.out.1 _ rfl)); (first | simp only [add_at] at hx160_0 | skip); obtain ⟨hx34_0, hf34_0⟩ := Kd.W_cell 0 HO_0.out ((l1.length : Int) : Int) p34 q34; replace p34 := eq_true p34; replace q34 := eq_true q34; obtain ⟨hy38_, hz38_⟩ := Kd.W_cell 0 HO_0.out ((l1.length : Int) : Int) (of_decide_eq_true zq0) (of_decide_eq_true zq0); (try simp only [Go.IntWalk.toNatUp] at hy38_ hz38_); have HP38 := Kd.W_putg HO_0.out ((l1.length : Int) : Int) (of_decide_eq_true zq0) zq5 t161) | ((with_reducible refine gate_store (t := 86) (p := 125) rfl ?_); (try (rw [drewN_self wr]; generalize hq_ : World.drewN wr _ = wr; have n0_ := Aside0.mk (Kd.W_at hq_ HO_0.out); have n1_ := Aside0.mk (kept_at hq_ HK.out); have n2_ := Aside0.mk (below_at hq_ HB.out); clear hq_ HO_0 HK HB; have HO_0 := n0_; have HK := n1_; have HB := n2_; clear n0_ n1_ n2_; (try (obtain ⟨hy38_, hz38_⟩ := Kd.W_cell 0 HO_0.out ((l1.length : Int) : Int) (of_decide_eq_true zq0) (of_decide_eq_true zq0))); (try (try simp only [Go.IntWalk.toNatUp] at hy38_ hz38_)); (try (have HP38 := Kd.W_putg HO_0.out ((l1.length : Int) : Int) (of_decide_eq_true zq0) zq5 t161)))); refine store_event (t := 86) (p := 125) (v := ?vo_w39) (w1 := (wr.setCell ⟨go34, oo34 + ((l1.length : Int) : Int).toNat, none⟩ (.int .u32 t161))) ?hg ?ho ?hn ?hr ?_; (case ho => rfl); (case hg => rfl); (case hn => rfl); (case hr => first | (go_simp; done) | (go_simp; rfl)); intro w39 hw; have hg : wr.grownBy w39 (some go34) := (by rw [hw]; exact HP38.2); have hp_ : Kd.W pre_ post_ (Kd.int .u32) 86 w39 w0.heap.size (fun k_ => (P0_ k_ ∨ w.heap.size ≤ k_)) (.slice (some ⟨go34, oo34, none⟩) x0_2.length co11) y163 := (by rw [hw, Ny163.out]; exact HP38.1); clear HP38; have n0_ := Aside0.mk (hp_); have n1_ := Aside0.mk ((by rw [hw]; exact below_set (HB.out) GB34.out : Below w0.heap.size w0 w39)); have n2_ := Aside0.mk (Kept.of_grown (S := (fun k_ => P0_ k_)) hg zq4 (fun k_ e_ => (HO_0.out.1 k_ e_))); revert n0_ n1_ n2_; clear HO_0 HB HK; intro HO_0 HB HK; clear hg hw hp_)))
        go_loopg [14, 132] k2 (fun kq v14 v132 w' => ∃ (x0_3 : List Int) (x14_3 : Int) (x132_3 : Int), v14 = .int .u32 x14_3 ∧ v132 = .int .i64 x132_3 ∧ Aside0 (N1step.l2 kq x0_3 (l1.length : Int) x7_9 x14_3 l1 (l1.length : Int) x132_3 = some (r1, r2)) ∧ Aside0 (kq ≤ k2) ∧ Aside0 (Kd.W pre_ post_ (Kd.int .u32) 86 w' w0.heap.size (fun k_ => (P0_ k_ ∨ w.heap.size ≤ k_)) (.slice (some ⟨go34, oo34, none⟩) x0_2.length co11) x0_3) ∧ Aside0 (Kept w w' (fun k_ => P0_ k_)) ∧ Aside0 (Below w0.heap.size w0 w'))
        case atStart => exact ⟨(y163), (0), (0), zq1, zq1, H', ⟨Nat.le_refl _⟩, ⟨by (try simp only [hl0_2]); (with_reducible repeat (first | apply Kd.W_alloc | apply Kd.W_drewN | apply Kd.W_drew)); exact HO_0.out⟩, ⟨by repeat (first | (with_reducible first | exact HK.out | apply Kept.alloc | apply Kept.drewN | apply Kept.drew) | exact HK.out)⟩, ⟨zH⟩⟩
        case round =>
         clear H'
         obtain ⟨x0_3, x14_3, x132_3, rfl, rfl, HA, HK3, HO_0, HK, HB⟩ := hrel
         have hl0_3 := (Kd.W_reads' rfl HO_0.out).1
         rw [hl0_3] at HO_0
         (try simp only [hl0_3])
         cases gk with
         | zero => exact absurd HA.out (by simp [N1step.l2])
         | succ k3 =>
          have H := HA.out
          clear HA
          simp only [N1step.l2] at H
          by_cases c40 : x132_3 < (l1.length : Int)
          ·rw [if_pos c40] at H
           have c40b0 := decide_eq_true c40
           (try (have c40x0 := c40b0; simp only [hl0_2, hl0_3] at c40x0))
           clear c40
           replace H := iteD H
           obtain ⟨c41b0, H⟩ := H
           replace H := of_ite H
           obtain ⟨c42, H⟩ := H
           have c42b0 := decide_eq_true c42
           (try (have c42x0 := c42b0; simp only [hl0_2, hl0_3] at c42x0))
           clear c42
           replace H := of_ite H
           obtain ⟨c43, H⟩ := H
           have c43b0 := decide_eq_true c43
           (try (have c43x0 := c43b0; simp only [hl0_2, hl0_3] at c43x0))
           clear c43
           replace H := bS H
           obtain ⟨⟨t166, t167⟩, A44, H⟩ := H
           (try dsimp only at H)
           obtain ⟨y168, hy168⟩ : ∃ y_ : List Int, y_ = (x0_3.set (x132_3 : Int).toNat t166) := ⟨_, rfl⟩
           (try rw [Option.bind_some] at H); (try rw [← hy168] at H)
           have Ny168 := Aside0.mk hy168
           clear hy168
           have H' := Aside0.mk H
           clear H
           obtain ⟨ad164, e164, hx164_0, p164, q164⟩ := atI (Kd.C_kept_now HR1.out HK.out) x132_3
           obtain rfl : ad150 = ad164 := (by injection e164)
           obtain ⟨ad165, e165, hx165_0, p165, q165⟩ := atI (Kd.W_reads' rfl HO_0.out).2.2 x132_3
           obtain rfl : (⟨go34, oo34, none⟩ : Addr) = ad165 := (by injection e165)
           (first | simp only [add_plain] at hx165_0 | simp only [add_at] at hx165_0 | simp only [Addr.add, Nat.zero_add] at hx165_0 | skip)
           go_wp2_with (first | (go_at_call 87; (with_reducible refine (bits_Add32.calls (rd x0_3 x132_3) (rd l1 x132_3) x14_3 t166 t167 _ A44.out).mono ?_); rintro e w' ⟨rfl, ⟨nd, rfl⟩⟩; (try first | exact ⟨rfl, _, World.drewN_drewN _ _ _⟩ | exact ⟨rfl, _, Eq.trans (World.drewN_drewN _ _ _) (congrArg (World.drewN _) (Nat.add_assoc _ _ _))⟩); have p45 : 0 ≤ (x132_3 : Int) := of_decide_eq_true zq0; have q45 : (x132_3 : Int) < ((x0_3.length : Int) : Int) := of_decide_eq_true zq0; obtain ⟨hx45_0, hf45_0⟩ := Kd.W_cell 0 HO_0.out (x132_3 : Int) p45 q45; replace p45 := eq_true p45; replace q45 := eq_true q45; obtain ⟨hy46_, hz46_⟩ := Kd.W_cell 0 HO_0.out (x132_3 : Int) (of_decide_eq_true zq0) (of_decide_eq_true zq0); have HP46 := Kd.W_putg HO_0.out (x132_3 : Int) (of_decide_eq_true zq0) zq14 t166) | ((with_reducible refine gate_store (t := 86) (p := 149) rfl ?_); (try (rw [drewN_self wr]; generalize hq_ : World.drewN wr _ = wr; have n0_ := Aside0.mk (Kd.W_at hq_ HO_0.out); have n1_ := Aside0.mk (kept_at hq_ HK.out); have n2_ := Aside0.mk (below_at hq_ HB.out); clear hq_ HO_0 HK HB; have HO_0 := n0_; have HK := n1_; have HB := n2_; clear n0_ n1_ n2_; (try (obtain ⟨hy46_, hz46_⟩ := Kd.W_cell 0 HO_0.out (x132_3 : Int) (of_decide_eq_true zq0) (of_decide_eq_true zq0))); (try (have HP46 := Kd.W_putg HO_0.out (x132_3 : Int) (of_decide_eq_true zq0) zq14 t166)))); refine store_event (t := 86) (p := 149) (v := ?vo_w47) (w1 := (wr.setCell ⟨go34, oo34 + (x132_3 : Int).toNat, none⟩ (.int .u32 t166))) ?hg ?ho ?hn ?hr ?_; (case ho => rfl); (case hg => rfl); (case hn => rfl); (case hr => first | (go_simp; done) | (go_simp; rfl)); intro w47 hw; have hg : wr.grownBy w47 (some go34) := (by rw [hw]; exact HP46.2); have hp_ : Kd.W pre_ post_ (Kd.int .u32) 86 w47 w0.heap.size (fun k_ => (P0_ k_ ∨ w.heap.size ≤ k_)) (.slice (some ⟨go34, oo34, none⟩) x0_3.length co11) y168 := (by rw [hw, Ny168.out]; exact HP46.1); clear HP46; have n0_ := Aside0.mk (hp_); have n1_ := Aside0.mk ((by rw [hw]; exact below_set (HB.out) GB34.out : Below w0.heap.size w0 w47)); have n2_ := Aside0.mk (Kept.of_grown (S := (fun k_ => P0_ k_)) hg zq4 (fun k_ e_ => (HO_0.out.1 k_ e_))); revert n0_ n1_ n2_; clear HO_0 HB HK; intro HO_0 HB HK; clear hg hw hp_))
           repeat (go_quiet (first | (go_at_call 87; (with_reducible refine (bits_Add32.calls (rd x0_3 x132_3) (rd l1 x132_3) x14_3 t166 t167 _ A44.out).mono ?_); rintro e w' ⟨rfl, ⟨nd, rfl⟩⟩; (try first | exact ⟨rfl, _, World.drewN_drewN _ _ _⟩ | exact ⟨rfl, _, Eq.trans (World.drewN_drewN _ _ _) (congrArg (World.drewN _) (Nat.add_assoc _ _ _))⟩); have p45 : 0 ≤ (x132_3 : Int) := of_decide_eq_true zq0; have q45 : (x132_3 : Int) < ((x0_3.length : Int) : Int) := of_decide_eq_true zq0; obtain ⟨hx45_0, hf45_0⟩ := Kd.W_cell 0 HO_0.out (x132_3 : Int) p45 q45; replace p45 := eq_true p45; replace q45 := eq_true q45; obtain ⟨hy46_, hz46_⟩ := Kd.W_cell 0 HO_0.out (x132_3 : Int) (of_decide_eq_true zq0) (of_decide_eq_true zq0); have HP46 := Kd.W_putg HO_0.out (x132_3 : Int) (of_decide_eq_true zq0) zq14 t166) | ((with_reducible refine gate_store (t := 86) (p := 149) rfl ?_); (try (rw [drewN_self wr]; generalize hq_ : World.drewN wr _ = wr; have n0_ := Aside0.mk (Kd.W_at hq_ HO_0.out); have n1_ := Aside0.mk (kept_at hq_ HK.out); have n2_ := Aside0.mk (below_at hq_ HB.out); clear hq_ HO_0 HK HB; have HO_0 := n0_; have HK := n1_; have HB := n2_; clear n0_ n1_ n2_; (try (obtain ⟨hy46_, hz46_⟩ := Kd.W_cell 0 HO_0.out (x132_3 : Int) (of_decide_eq_true zq0) (of_decide_eq_true zq0))); (try (have HP46 := Kd.W_putg HO_0.out (x132_3 : Int) (of_decide_eq_true zq0) zq14 t166)))); refine store_event (t := 86) (p := 149) (v := ?vo_w47) (w1 := (wr.setCell ⟨go34, oo34 + (x132_3 : Int).toNat, none⟩ (.int .u32 t166))) ?hg ?ho ?hn ?hr ?_; (case ho => rfl); (case hg => rfl); (case hn => rfl); (case hr => first | (go_simp; done) | (go_simp; rfl)); intro w47 hw; have hg : wr.grownBy w47 (some go34) := (by rw [hw]; exact HP46.2); have hp_ : Kd.W pre_ post_ (Kd.int .u32) 86 w47 w0.heap.size (fun k_ => (P0_ k_ ∨ w.heap.size ≤ k_)) (.slice (some ⟨go34, oo34, none⟩) x0_3.length co11) y168 := (by rw [hw, Ny168.out]; exact HP46.1); clear HP46; have n0_ := Aside0.mk (hp_); have n1_ := Aside0.mk ((by rw [hw]; exact below_set (HB.out) GB34.out : Below w0.heap.size w0 w47)); have n2_ := Aside0.mk (Kept.of_grown (S := (fun k_ => P0_ k_)) hg zq4 (fun k_ e_ => (HO_0.out.1 k_ e_))); revert n0_ n1_ n2_; clear HO_0 HB HK; intro HO_0 HB HK; clear hg hw hp_)); try go_wp2_with (first | (go_at_call 87; (with_reducible refine (bits_Add32.calls (rd x0_3 x132_3) (rd l1 x132_3) x14_3 t166 t167 _ A44.out).mono ?_); rintro e w' ⟨rfl, ⟨nd, rfl⟩⟩; (try first | exact ⟨rfl, _, World.drewN_drewN _ _ _⟩ | exact ⟨rfl, _, Eq.trans (World.drewN_drewN _ _ _) (congrArg (World.drewN _) (Nat.add_assoc _ _ _))⟩); have p45 : 0 ≤ (x132_3 : Int) := of_decide_eq_true zq0; have q45 : (x132_3 : Int) < ((x0_3.length : Int) : Int) := of_decide_eq_true zq0; obtain ⟨hx45_0, hf45_0⟩ := Kd.W_cell 0 HO_0.out (x132_3 : Int) p45 q45; replace p45 := eq_true p45; replace q45 := eq_true q45; obtain ⟨hy46_, hz46_⟩ := Kd.W_cell 0 HO_0.out (x132_3 : Int) (of_decide_eq_true zq0) (of_decide_eq_true zq0); have HP46 := Kd.W_putg HO_0.out (x132_3 : Int) (of_decide_eq_true zq0) zq14 t166) | ((with_reducible refine gate_store (t := 86) (p := 149) rfl ?_); (try (rw [drewN_self wr]; generalize hq_ : World.drewN wr _ = wr; have n0_ := Aside0.mk (Kd.W_at hq_ HO_0.out); have n1_ := Aside0.mk (kept_at hq_ HK.out); have n2_ := Aside0.mk (below_at hq_ HB.out); clear hq_ HO_0 HK HB; have HO_0 := n0_; have HK := n1_; have HB := n2_; clear n0_ n1_ n2_; (try (obtain ⟨hy46_, hz46_⟩ := Kd.W_cell 0 HO_0.out (x132_3 : Int) (of_decide_eq_true zq0) (of_decide_eq_true zq0))); (try (have HP46 := Kd.W_putg HO_0.out (x132_3 : Int) (of_decide_eq_true zq0) zq14 t166)))); refine store_event (t := 86) (p := 149) (v := ?vo_w47) (w1 := (wr.setCell ⟨go34, oo34 + (x132_3 : Int).toNat, none⟩ (.int .u32 t166))) ?hg ?ho ?hn ?hr ?_; (case ho => rfl); (case hg => rfl); (case hn => rfl); (case hr => first | (go_simp; done) | (go_simp; rfl)); intro w47 hw; have hg : wr.grownBy w47 (some go34) := (by rw [hw]; exact HP46.2); have hp_ : Kd.W pre_ post_ (Kd.int .u32) 86 w47 w0.heap.size (fun k_ => (P0_ k_ ∨ w.heap.size ≤ k_)) (.slice (some ⟨go34, oo34, none⟩) x0_3.length co11) y168 := (by rw [hw, Ny168.out]; exact HP46.1); clear HP46; have n0_ := Aside0.mk (hp_); have n1_ := Aside0.mk ((by rw [hw]; exact below_set (HB.out) GB34.out : Below w0.heap.size w0 w47)); have n2_ := Aside0.mk (Kept.of_grown (S := (fun k_ => P0_ k_)) hg zq4 (fun k_ e_ => (HO_0.out.1 k_ e_))); revert n0_ n1_ n2_; clear HO_0 HB HK; intro HO_0 HB HK; clear hg hw hp_)))
           (try simp only [← hl0_3])
           (refine Handed.intro k3 ?measure ?_; rotate_left; go_step; (repeat apply Exists.intro); refine ⟨?rel, (by first | rfl | (simp only [add_at]; rfl))⟩)
           case measure => have := HJ9.out; have := HK2.out; have := HK3.out; omega
           case rel => exact ⟨(y168), (t167), (wrap64 (x132_3 + 1)), zq1, zq1, H', ⟨by have := HJ9.out; have := HK2.out; have := HK3.out; omega⟩, ⟨by (try simp only [hl0_2]); (try simp only [hl0_3]); (with_reducible repeat (first | apply Kd.W_alloc | apply Kd.W_drewN | apply Kd.W_drew)); exact HO_0.out⟩, ⟨by repeat (first | (with_reducible first | exact HK.out | apply Kept.alloc | apply Kept.drewN | apply Kept.drew) | exact HK.out)⟩, ⟨zH⟩⟩
          ·rw [if_neg c40] at H
           have c40b0 := decide_eq_false c40
           (try (have c40x0 := c40b0; simp only [hl0_2, hl0_3] at c40x0))
           clear c40
           replace H := of_ite H
           obtain ⟨c48, H⟩ := H
           have c48b0 := decide_eq_true c48
           have c48b1 : decide (0 ≤ l1.length) = true := decide_eq_true (by omega)
           (try (have c48x0 := c48b0; simp only [hl0_2, hl0_3] at c48x0))
           (try (have c48x1 := c48b1; simp only [hl0_2, hl0_3] at c48x1))
           clear c48
           replace H := of_ite H
           obtain ⟨c49, H⟩ := H
           have c49b0 := decide_eq_true c49
           have c49b1 : decide (l1.length < x0_3.length) = true := decide_eq_true (Int.ofNat_lt.mp c49)
           (try (have c49x0 := c49b0; simp only [hl0_2, hl0_3] at c49x0))
           (try (have c49x1 := c49b1; simp only [hl0_2, hl0_3] at c49x1))
           clear c49
           obtain ⟨y170, hy170⟩ : ∃ y_ : List Int, y_ = (x0_3.set ((l1.length : Int) : Int).toNat (((rd x0_3 (l1.length : Int)) + x14_3) % 4294967296)) := ⟨_, rfl⟩
           (try rw [Option.bind_some] at H); (try rw [← hy170] at H)
           have Ny170 := Aside0.mk hy170
           clear hy170
           simp only [Option.some.injEq, Prod.mk.injEq] at H
           obtain ⟨rfl, rfl⟩ := H
           have p169 : 0 ≤ ((l1.length : Int) : Int) := of_decide_eq_true zq0
           have q169 : (l1.length : Int) < (x0_3.length : Int) := of_decide_eq_true zq0
           obtain ⟨ad169, e169, hx169_0⟩ := Kd.at_int (Kd.W_reads' rfl HO_0.out).2.2 (l1.length : Int) p169 q169
           obtain rfl : (⟨go34, oo34, none⟩ : Addr) = ad169 := (by injection e169)
           (first | simp only [add_plain] at hx169_0 | simp only [add_at] at hx169_0 | simp only [Addr.add, Nat.zero_add] at hx169_0 | skip)
           (try simp only [Go.IntWalk.toNatUp] at hx169_0)
           (try simp only [hl0_2, hl0_3] at p169)
           (try simp only [hl0_2, hl0_3] at q169)
           (try simp only [hl0_2, hl0_3] at hx169_0)
           replace p169 := eq_true p169
           replace q169 := eq_true q169
           have p50 : 0 ≤ ((l1.length : Int) : Int) := of_decide_eq_true zq0
           have q50 : ((l1.length : Int) : Int) < ((x0_3.length : Int) : Int) := of_decide_eq_true zq0
           obtain ⟨hx50_0, hf50_0⟩ := Kd.W_cell 0 HO_0.out ((l1.length : Int) : Int) p50 q50
           (try simp only [Go.IntWalk.toNatUp] at hx50_0 hf50_0)
           replace p50 := eq_true p50
           replace q50 := eq_true q50
           have HP51 := Kd.W_putg HO_0.out ((l1.length : Int) : Int) (of_decide_eq_true zq0) zq21 (((rd x0_3 (l1.length : Int)) + x14_3) % 4294967296)
           go_wp2_with (first | ((with_reducible refine gate_store (t := 86) (p := 157) rfl ?_); (try (rw [drewN_self wr]; generalize hq_ : World.drewN wr _ = wr; have n0_ := Aside0.mk (Kd.W_at hq_ HO_0.out); have n1_ := Aside0.mk (kept_at hq_ HK.out); have n2_ := Aside0.mk (below_at hq_ HB.out); clear hq_ HO_0 HK HB; have HO_0 := n0_; have HK := n1_; have HB := n2_; clear n0_ n1_ n2_; (try (have HP51 := Kd.W_putg HO_0.out ((l1.length : Int) : Int) (of_decide_eq_true zq0) zq21 (((rd x0_3 (l1.length : Int)) + x14_3) % 4294967296))))); refine store_event (t := 86) (p := 157) (v := ?vo_w52) (w1 := (wr.setCell ⟨go34, oo34 + ((l1.length : Int) : Int).toNat, none⟩ (.int .u32 (((rd x0_3 (l1.length : Int)) + x14_3) % 4294967296)))) ?hg ?ho ?hn ?hr ?_; (case ho => rfl); (case hg => rfl); (case hn => rfl); (case hr => first | (go_simp; done) | (go_simp; rfl)); intro w52 hw; have hg : wr.grownBy w52 (some go34) := (by rw [hw]; exact HP51.2); have hp_ : Kd.W pre_ post_ (Kd.int .u32) 86 w52 w0.heap.size (fun k_ => (P0_ k_ ∨ w.heap.size ≤ k_)) (.slice (some ⟨go34, oo34, none⟩) x0_3.length co11) y170 := (by rw [hw, Ny170.out]; exact HP51.1); clear HP51; have n0_ := Aside0.mk (hp_); have n1_ := Aside0.mk ((by rw [hw]; exact below_set (HB.out) GB34.out : Below w0.heap.size w0 w52)); have n2_ := Aside0.mk (Kept.of_grown (S := (fun k_ => P0_ k_)) hg zq4 (fun k_ e_ => (HO_0.out.1 k_ e_))); revert n0_ n1_ n2_; clear HO_0 HB HK; intro HO_0 HB HK; clear hg hw hp_))
           repeat (go_quiet (first | ((with_reducible refine gate_store (t := 86) (p := 157) rfl ?_); (try (rw [drewN_self wr]; generalize hq_ : World.drewN wr _ = wr; have n0_ := Aside0.mk (Kd.W_at hq_ HO_0.out); have n1_ := Aside0.mk (kept_at hq_ HK.out); have n2_ := Aside0.mk (below_at hq_ HB.out); clear hq_ HO_0 HK HB; have HO_0 := n0_; have HK := n1_; have HB := n2_; clear n0_ n1_ n2_; (try (have HP51 := Kd.W_putg HO_0.out ((l1.length : Int) : Int) (of_decide_eq_true zq0) zq21 (((rd x0_3 (l1.length : Int)) + x14_3) % 4294967296))))); refine store_event (t := 86) (p := 157) (v := ?vo_w52) (w1 := (wr.setCell ⟨go34, oo34 + ((l1.length : Int) : Int).toNat, none⟩ (.int .u32 (((rd x0_3 (l1.length : Int)) + x14_3) % 4294967296)))) ?hg ?ho ?hn ?hr ?_; (case ho => rfl); (case hg => rfl); (case hn => rfl); (case hr => first | (go_simp; done) | (go_simp; rfl)); intro w52 hw; have hg : wr.grownBy w52 (some go34) := (by rw [hw]; exact HP51.2); have hp_ : Kd.W pre_ post_ (Kd.int .u32) 86 w52 w0.heap.size (fun k_ => (P0_ k_ ∨ w.heap.size ≤ k_)) (.slice (some ⟨go34, oo34, none⟩) x0_3.length co11) y170 := (by rw [hw, Ny170.out]; exact HP51.1); clear HP51; have n0_ := Aside0.mk (hp_); have n1_ := Aside0.mk ((by rw [hw]; exact below_set (HB.out) GB34.out : Below w0.heap.size w0 w52)); have n2_ := Aside0.mk (Kept.of_grown (S := (fun k_ => P0_ k_)) hg zq4 (fun k_ e_ => (HO_0.out.1 k_ e_))); revert n0_ n1_ n2_; clear HO_0 HB HK; intro HO_0 HB HK; clear hg hw hp_)); try go_wp2_with (first | ((with_reducible refine gate_store (t := 86) (p := 157) rfl ?_); (try (rw [drewN_self wr]; generalize hq_ : World.drewN wr _ = wr; have n0_ := Aside0.mk (Kd.W_at hq_ HO_0.out); have n1_ := Aside0.mk (kept_at hq_ HK.out); have n2_ := Aside0.mk (below_at hq_ HB.out); clear hq_ HO_0 HK HB; have HO_0 := n0_; have HK := n1_; have HB := n2_; clear n0_ n1_ n2_; (try (have HP51 := Kd.W_putg HO_0.out ((l1.length : Int) : Int) (of_decide_eq_true zq0) zq21 (((rd x0_3 (l1.length : Int)) + x14_3) % 4294967296))))); refine store_event (t := 86) (p := 157) (v := ?vo_w52) (w1 := (wr.setCell ⟨go34, oo34 + ((l1.length : Int) : Int).toNat, none⟩ (.int .u32 (((rd x0_3 (l1.length : Int)) + x14_3) % 4294967296)))) ?hg ?ho ?hn ?hr ?_; (case ho => rfl); (case hg => rfl); (case hn => rfl); (case hr => first | (go_simp; done) | (go_simp; rfl)); intro w52 hw; have hg : wr.grownBy w52 (some go34) := (by rw [hw]; exact HP51.2); have hp_ : Kd.W pre_ post_ (Kd.int .u32) 86 w52 w0.heap.size (fun k_ => (P0_ k_ ∨ w.heap.size ≤ k_)) (.slice (some ⟨go34, oo34, none⟩) x0_3.length co11) y170 := (by rw [hw, Ny170.out]; exact HP51.1); clear HP51; have n0_ := Aside0.mk (hp_); have n1_ := Aside0.mk ((by rw [hw]; exact below_set (HB.out) GB34.out : Below w0.heap.size w0 w52)); have n2_ := Aside0.mk (Kept.of_grown (S := (fun k_ => P0_ k_)) hg zq4 (fun k_ e_ => (HO_0.out.1 k_ e_))); revert n0_ n1_ n2_; clear HO_0 HB HK; intro HO_0 HB HK; clear hg hw hp_)))
           go_ret
           exact ⟨by first | rfl | (simp [errW_none, errW_some] <;> rfl) | (simp only [← hji5]; first | rfl | (simp [errW_none, errW_some] <;> rfl)) | (simp [*, errW_none, errW_some] <;> rfl), (by first | exact zq20 | (simp only [hl0_2, hl0_3]; exact zq20)), zH, by repeat (first | (with_reducible first | exact HK.out | apply Kept.alloc | apply Kept.drewN | apply Kept.drew) | exact HK.out)⟩
def N1stepc.f (k : Nat) (l0 : List Int) (lo : Int) (hi : Int) (l1 : List Int) : Option (Int × List Int) := (N1step.f k ((l0.take hi.toNat).drop lo.toNat) l1).bind fun b => some (b.1, l0.take lo.toNat ++ b.2 ++ l0.drop hi.toNat)
theorem N1stepc.calls (k : Nat) (P0_ : Nat → Prop) (A : Option Addr) (c0 : Nat) (l0 : List Int) (lo hi : Int) (A1 : Option Addr) (c1 : Nat) (l1 : List Int) (r1 : Int) (r2 : List Int) (w0 w : World) (hB : Below w0.heap.size w0 w)
 (ho0 : Kd.R (Kd.int .u32) 86 w w0.heap.size P0_ (.slice A l0.length c0) l0) (hr1 : ∀ W_, Kept w W_ (fun k_ => P0_ k_) → Kd.C (Kd.int .u32) W_ A1 l1.length l1) (hc1 : l1.length ≤ c1) (h0 : 0 ≤ lo) (hh : hi ≤ l0.length)
 {Ac : Option Addr} {nc cc : Nat} (hA : Ac = if c0 = lo.toNat then A else A.map (·.add (lo.toNat * 1))) (hn : nc = hi.toNat - lo.toNat) (hcc : cc = c0 - lo.toNat) (h : N1stepc.f k l0 lo hi l1 = some (r1, r2)) :
 Calls Tryd.prog 100 #[.slice Ac nc cc, .slice A1 l1.length c1] w fun e w' => e = .returned (.int .u32 r1) ∧ Kd.R (Kd.int .u32) 86 w' w0.heap.size (fun k_ => (P0_ k_ ∨ w.heap.size ≤ k_)) (.slice A l0.length c0) r2 ∧ Below w0.heap.size w0 w' ∧ Kept w w' (fun k_ => P0_ k_) := by
 obtain ⟨⟨d, u⟩, hs, he⟩ := Option.bind_eq_some_iff.mp h
 simp only [Option.some.injEq, Prod.mk.injEq] at he
 obtain ⟨rfl, rfl⟩ := he
 have hlh : lo < hi := by
  refine Int.not_le.1 fun hle => ?_
  have e : (l0.take hi.toNat).drop lo.toNat = [] := List.drop_eq_nil_of_le (by rw [List.length_take]; omega)
  rw [e] at hs
  unfold N1step.f at hs
  rw [if_pos (Int.natCast_nonneg _), if_neg (by simp)] at hs
  cases hs
 obtain ⟨g, cap, hv, _, _, _⟩ := Kd.R_form ho0 (by omega)
 injection hv with hA' _ hcap
 subst hA'; subst hcap
 have hcl := (Kd.R_reads' ho0).2.1
 have ewin : ((l0.take hi.toNat).drop lo.toNat).length = hi.toNat - lo.toNat := by rw [List.length_drop, List.length_take]; omega
 have epre : (l0.take lo.toNat).length = lo.toNat := by rw [List.length_take]; omega
 have eall : l0.take lo.toNat ++ (l0.take hi.toNat).drop lo.toNat ++ l0.drop hi.toNat = l0 := by
  have e1 : l0.take lo.toNat = (l0.take hi.toNat).take lo.toNat := by rw [List.take_take, Nat.min_eq_left (by omega)]
  rw [e1, List.take_append_drop, List.take_append_drop]
 have hW : Kd.W (l0.take lo.toNat) (l0.drop hi.toNat) (Kd.int .u32) 86 w w0.heap.size P0_ (.slice (some ⟨g, lo.toNat, none⟩) ((l0.take hi.toNat).drop lo.toNat).length (c0 - lo.toNat)) ((l0.take hi.toNat).drop lo.toNat) :=
  ⟨fun k hk => ho0.1 k (by simpa [Value.ownBlock] using hk), g, c0, by rw [eall]; exact ho0, by rw [epre]⟩
 have hAc : Ac = some ⟨g, lo.toNat, none⟩ := by
  rw [hA, if_neg (by omega), Nat.mul_one, Option.map_some, add_plain]
 rw [hAc, hn, hcc, ← ewin]
 refine (N1step.calls k _ _ P0_ _ _ A1 c1 l1 d u w0 w hB hW hr1 hc1 hs).mono ?_
 rintro e w' ⟨rfl, ⟨hok, g', cap', hR, hv⟩, hb, hk⟩
 injection hv with hA2 hn2 hc2
 injection hA2 with hA2
 injection hA2 with hg _
 subst hg
 refine ⟨rfl, ?_, hb, hk⟩
 have e2 : (l0.take lo.toNat ++ u ++ l0.drop hi.toNat).length = l0.length := by
  rw [← eall]
  simp only [List.length_append, ← hn2]
  simp only [← List.length_append, eall]
 have e3 : cap' = c0 := by
  have := (Kd.R_reads' hR).2.1
  rw [e2] at this
  rw [epre] at hc2
  omega
 rw [e2, e3] at hR
 exact hR
end Go.Proofs.YtggfilmdfpmbmaaDoor.QN
end
section
namespace Go.Proofs.YtggfilmdfpmbmaaDoor.QN
open Go.RowKit Go.Proofs.YtggfilmdfpmbmaaDoorW.PrintWords Go.Proofs.YtggfilmdfpmbmaaDoorW.PrintLast Go.Proofs.YtggfilmdfpmbmaaDoorW.PrintMore
attribute [local go_sem] max2_int min2_int max_two min_two max_three min_three max_four min_four   -- for this text's walks alone
set_option linter.unusedVariables false
set_option linter.unusedSimpArgs false
def N1unshift.l0 : Nat → List Int → Int → List Int → Int → Int → Option (List Int)
 | 0, _, _, _, _, _ => none
 | k + 1, x0, x1, x5, x12, x13 => if x13 < x12 then (if 0 ≤ x13 then (if x13 < (x0.length : Int) then (if (wrap64 (x13 + 1)) < (x0.length : Int) then (if 0 ≤ (wrap64 (x13 + 1)) then (if 0 ≤ x1 then (if x1 ≤ 64 then (if x13 < (x5.length : Int) then (N1unshift.l0 k x0 x1 (x5.set (x13 : Int).toNat (((Go.bits .or .u64 (IntKind.u64.wrap (rd x0 x13)) (IntKind.u64.wrap ((IntKind.u64.wrap (rd x0 (wrap64 (x13 + 1)))) * 4294967296))) / 2 ^ x1.toNat) % 4294967296)) x12 (wrap64 (x13 + 1))) else (none)) else (none)) else (none)) else (none)) else (if 0 ≤ x1 then (if x1 ≤ 64 then (if x13 < (x5.length : Int) then (N1unshift.l0 k x0 x1 (x5.set (x13 : Int).toNat (((IntKind.u64.wrap (rd x0 x13)) / 2 ^ x1.toNat) % 4294967296)) x12 (wrap64 (x13 + 1))) else (none)) else (none)) else (none))) else (none)) else (none)) else ((N1limbs_trim.f k x5).bind fun t178 => (some t178))
def N1unshift.f (k : Nat) (l0 : List Int) (a1 : Int) : Option (List Int) := if 0 ≤ (l0.length : Int) then (if ((l0.length : Int) : Int).toNat ≤ 70368744177664 then (N1unshift.l0 k l0 a1 (List.replicate ((l0.length : Int) : Int).toNat 0) (l0.length : Int) 0) else (none)) else (none)
set_option maxHeartbeats 8000000 in
set_option maxRecDepth 100000 in
theorem N1unshift.calls (k : Nat) (A0 : Option Addr) (c0 : Nat) (l0 : List Int) (a1 : Int) (r : List Int) (w : World) (hr0 : Kd.C (Kd.int .u32) w A0 l0.length l0) (hc0 : l0.length ≤ c0) (h : N1unshift.f k l0 a1 = some r) :
 Calls Tryd.prog 101 #[.slice A0 l0.length c0, .int .u64 a1] w fun e w' => ∃ v0_ : Value, e = .returned (v0_) ∧ Kd.V (Kd.int .u32) 86 w' w.heap.size (fun k_ => (w.heap.size ≤ k_)) v0_ r ∧ Below w.heap.size w w' := by
 have HR0 := Aside0.mk hr0
 have HC0 := Aside0.mk hc0
 clear hr0 hc0
 have HB := Aside0.mk (Below.refl w.heap.size w)
 have H : (if 0 ≤ (l0.length : Int) then (if ((l0.length : Int) : Int).toNat ≤ 70368744177664 then (N1unshift.l0 k l0 a1 (List.replicate ((l0.length : Int) : Int).toNat 0) (l0.length : Int) 0) else (none)) else (none)) = some r := h
 clear h
 replace H := iteE H
 obtain ⟨c3b0, c3b1, H⟩ := H
 replace H := iteE H
 obtain ⟨c4b0, c4b1, H⟩ := H
 obtain ⟨y171, hy171⟩ : ∃ y_ : List Int, y_ = (List.replicate ((l0.length : Int) : Int).toNat 0) := ⟨_, rfl⟩
 (try rw [Option.bind_some] at H); (try rw [← hy171] at H)
 have Ny171 := Aside0.mk hy171
 clear hy171
 have H' := Aside0.mk H
 clear H
 go_enter Tryd.func101, Tryd.ntmps101
 go_wp2_with (first | ((with_reducible refine gate_dst (N := 10) rfl ?_); refine Kd.R_make (Kd.int .u32) _ 86 rfl (N := 10) rfl 84 _ _ rfl (l0.length : Int) rfl rfl Tryd.underlying84 (.int .u32 0) 4 info86 rfl (by decide) (by omega) 0 (ok := fun _ => True) (okp := fun _ => True) rfl (fun _ hk => hk) trivial (of_decide_eq_true zq0) (Nat.le_trans (Nat.mul_le_mul_right _ (of_decide_eq_true zq0 : (l0.length : Int).toNat ≤ 70368744177664)) (by omega)) (Below.refl _ _) (Nat.le_refl _) ?_; intro v172 w5 ho6 hb hg_ hnew_; clear hg_ hnew_; (first | rw [← Ny171.out] at ho6 | (simp only [Int.reduceToNat] at ho6; rw [← Ny171.out] at ho6)); have n0_ := Aside0.mk (Kd.R_lower (Kd.R_newM (M := fun k_ => (w.heap.size ≤ k_)) ho6 (below_size zH) (fun k_ h_ => h_)) (below_size zH)); have n1_ := sB hb; revert n0_ n1_; clear HB; intro HO173 HB; clear hb ho6))
 go_loopg [13] k (fun kq v13 w' => ∃ (x5_1 : List Int) (x13_1 : Int), v13 = .int .i64 x13_1 ∧ Aside0 (N1unshift.l0 kq l0 a1 x5_1 (l0.length : Int) x13_1 = some r) ∧ Aside0 (kq ≤ k) ∧ Aside0 (Kd.R (Kd.int .u32) 86 w' w.heap.size (fun k_ => (w.heap.size ≤ k_)) v172 x5_1) ∧ Aside0 (Below w.heap.size w w'))
 case atStart => exact ⟨(y171), (0), zq1, H', ⟨Nat.le_refl _⟩, ⟨by (with_reducible repeat (first | apply Kd.R_alloc | apply Kd.R_drewN | apply Kd.R_drew)); exact Kd.R_mono HO173.out (fun _ hk => hk.1)⟩, ⟨zH⟩⟩
 case round =>
  clear H'
  obtain ⟨x5_1, x13_1, rfl, HA, HK1, HO_5, HB⟩ := hrel
  cases gk with
  | zero => exact absurd HA.out (by simp [N1unshift.l0])
  | succ k1 =>
   have H := HA.out
   clear HA
   simp only [N1unshift.l0] at H
   by_cases c7 : x13_1 < (l0.length : Int)
   ·rw [if_pos c7] at H
    have c7b0 := decide_eq_true c7
    clear c7
    replace H := iteD H
    obtain ⟨c8b0, H⟩ := H
    replace H := iteD H
    obtain ⟨c9b0, H⟩ := H
    by_cases c10 : (wrap64 (x13_1 + 1)) < (l0.length : Int)
    ·rw [if_pos c10] at H
     have c10b0 := decide_eq_true c10
     clear c10
     obtain ⟨ji11, hji11, hji11w⟩ := jI (x13_1 + 1)
     first | rw [hji11] at H | simp only [hji11] at H
     (try rw [hji11] at c10b0)
     replace H := iteD H
     obtain ⟨c12b0, H⟩ := H
     replace H := iteE H
     obtain ⟨c13b0, c13b1, H⟩ := H
     replace H := iteE H
     obtain ⟨c14b0, c14b1, H⟩ := H
     replace H := iteD H
     obtain ⟨c15b0, H⟩ := H
     obtain ⟨y176, hy176⟩ : ∃ y_ : List Int, y_ = (x5_1.set (x13_1 : Int).toNat (((Go.bits .or .u64 (IntKind.u64.wrap (rd l0 x13_1)) (IntKind.u64.wrap ((IntKind.u64.wrap (rd l0 (ji11))) * 4294967296))) / 2 ^ a1.toNat) % 4294967296)) := ⟨_, rfl⟩
     (try rw [Option.bind_some] at H); (try rw [← hy176] at H)
     have Ny176 := Aside0.mk hy176
     clear hy176
     have H' := Aside0.mk H
     clear H
     obtain ⟨ad174, e174, hx174_0, p174, q174⟩ := atI HR0.out x13_1
     cases e174
     (try replace hx174_0 := (HB.out.cell (World.block_lt_of_cell? w _ hx174_0)).trans hx174_0)
     obtain ⟨ad175, e175, hx175_0, p175, q175⟩ := atI HR0.out (ji11)
     obtain rfl : ad174 = ad175 := (by injection e175)
     (try replace hx175_0 := (HB.out.cell (World.block_lt_of_cell? w _ hx175_0)).trans hx175_0)
     have p16 : 0 ≤ (x13_1 : Int) := of_decide_eq_true zq0
     have q16 : (x13_1 : Int) < ((x5_1.length : Int) : Int) := of_decide_eq_true zq0
     obtain ⟨go16, co16, eo16, gb16, gl16, cl16, HG16⟩ := Kd.R_form HO_5.out (by omega)
     (first | cases eo16 | (injection eo16 with ea_ en_ ec_; (first | subst ea_ | (injection ea_ with ea_; subst ea_)); subst ec_; clear en_))
     have GB16 := Aside0.mk gb16
     have GG16 := Aside0.mk HG16
     clear gb16 gl16 HG16
     obtain ⟨hx16_0, hf16_0⟩ := Kd.R_celln 0 HO_5.out (x13_1 : Int) p16 q16
     (try simp only [Go.IntWalk.toNatUp] at hx16_0 hf16_0)
     replace p16 := eq_true p16
     replace q16 := eq_true q16
     have HP17 := Kd.R_putg HO_5.out (x13_1 : Int) (((Go.bits .or .u64 (IntKind.u64.wrap (rd l0 x13_1)) (IntKind.u64.wrap ((IntKind.u64.wrap (rd l0 (ji11))) * 4294967296))) / 2 ^ a1.toNat) % 4294967296)
     go_wp2_with (first | ((with_reducible refine gate_store (t := 86) (p := 41) rfl ?_); refine store_event (t := 86) (p := 41) (v := ?vo_w18) (w1 := (wr.setCell ⟨go16, (x13_1 : Int).toNat, none⟩ (.int .u32 (((Go.bits .or .u64 (IntKind.u64.wrap (rd l0 x13_1)) (IntKind.u64.wrap ((IntKind.u64.wrap (rd l0 (ji11))) * 4294967296))) / 2 ^ a1.toNat) % 4294967296)))) ?hg ?ho ?hn ?hr ?_; (case ho => rfl); (case hg => rfl); (case hn => rfl); (case hr => first | (go_simp; done) | (go_simp; rfl)); intro w18 hw; have hg : wr.grownBy w18 (some go16) := (by rw [hw]; exact HP17.2); have hp_ : Kd.R (Kd.int .u32) 86 w18 w.heap.size (fun k_ => (w.heap.size ≤ k_)) (.slice (some ⟨go16, 0, none⟩) x5_1.length co16) y176 := (by rw [hw, Ny176.out]; exact HP17.1); clear HP17; have n0_ := Aside0.mk (hp_); have n1_ := Aside0.mk ((by rw [hw]; exact below_set (HB.out) GB16.out : Below w.heap.size w w18)); revert n0_ n1_; clear HO_5 HB; intro HO_5 HB; clear hg hw hp_))
     go_roundg k1
     case measure => have := HK1.out; omega
     case rel => exact ⟨(y176), (ji11), (by first | rfl | (simp; done) | (simp only [← hji11] <;> (first | rfl | simp)) | (simp [*]; done)), H', ⟨by have := HK1.out; omega⟩, ⟨by (with_reducible repeat (first | apply Kd.R_alloc | apply Kd.R_drewN | apply Kd.R_drew)); exact HO_5.out⟩, ⟨zH⟩⟩
    ·rw [if_neg c10] at H
     have c10b0 := decide_eq_false c10
     clear c10
     replace H := iteE H
     obtain ⟨c19b0, c19b1, H⟩ := H
     replace H := iteE H
     obtain ⟨c20b0, c20b1, H⟩ := H
     replace H := iteD H
     obtain ⟨c21b0, H⟩ := H
     obtain ⟨y177, hy177⟩ : ∃ y_ : List Int, y_ = (x5_1.set (x13_1 : Int).toNat (((IntKind.u64.wrap (rd l0 x13_1)) / 2 ^ a1.toNat) % 4294967296)) := ⟨_, rfl⟩
     (try rw [Option.bind_some] at H); (try rw [← hy177] at H)
     have Ny177 := Aside0.mk hy177
     clear hy177
     have H' := Aside0.mk H
     clear H
     obtain ⟨ad174, e174, hx174_0, p174, q174⟩ := atI HR0.out x13_1
     cases e174
     (try replace hx174_0 := (HB.out.cell (World.block_lt_of_cell? w _ hx174_0)).trans hx174_0)
     have p22 : 0 ≤ (x13_1 : Int) := of_decide_eq_true zq0
     have q22 : (x13_1 : Int) < ((x5_1.length : Int) : Int) := of_decide_eq_true zq0
     obtain ⟨go22, co22, eo22, gb22, gl22, cl22, HG22⟩ := Kd.R_form HO_5.out (by omega)
     (first | cases eo22 | (injection eo22 with ea_ en_ ec_; (first | subst ea_ | (injection ea_ with ea_; subst ea_)); subst ec_; clear en_))
     have GB22 := Aside0.mk gb22
     have GG22 := Aside0.mk HG22
     clear gb22 gl22 HG22
     obtain ⟨hx22_0, hf22_0⟩ := Kd.R_celln 0 HO_5.out (x13_1 : Int) p22 q22
     (try simp only [Go.IntWalk.toNatUp] at hx22_0 hf22_0)
     replace p22 := eq_true p22
     replace q22 := eq_true q22
     have HP23 := Kd.R_putg HO_5.out (x13_1 : Int) (((IntKind.u64.wrap (rd l0 x13_1)) / 2 ^ a1.toNat) % 4294967296)
     go_wp2_with (first | ((with_reducible refine gate_store (t := 86) (p := 41) rfl ?_); refine store_event (t := 86) (p := 41) (v := ?vo_w24) (w1 := (wr.setCell ⟨go22, (x13_1 : Int).toNat, none⟩ (.int .u32 (((IntKind.u64.wrap (rd l0 x13_1)) / 2 ^ a1.toNat) % 4294967296)))) ?hg ?ho ?hn ?hr ?_; (case ho => rfl); (case hg => rfl); (case hn => rfl); (case hr => first | (go_simp; done) | (go_simp; rfl)); intro w24 hw; have hg : wr.grownBy w24 (some go22) := (by rw [hw]; exact HP23.2); have hp_ : Kd.R (Kd.int .u32) 86 w24 w.heap.size (fun k_ => (w.heap.size ≤ k_)) (.slice (some ⟨go22, 0, none⟩) x5_1.length co22) y177 := (by rw [hw, Ny177.out]; exact HP23.1); clear HP23; have n0_ := Aside0.mk (hp_); have n1_ := Aside0.mk ((by rw [hw]; exact below_set (HB.out) GB22.out : Below w.heap.size w w24)); revert n0_ n1_; clear HO_5 HB; intro HO_5 HB; clear hg hw hp_))
     go_roundg k1
     case measure => have := HK1.out; omega
     case rel => exact ⟨(y177), (wrap64 (x13_1 + 1)), zq1, H', ⟨by have := HK1.out; omega⟩, ⟨by (with_reducible repeat (first | apply Kd.R_alloc | apply Kd.R_drewN | apply Kd.R_drew)); exact HO_5.out⟩, ⟨zH⟩⟩
   ·rw [if_neg c7] at H
    have c7b0 := decide_eq_false c7
    clear c7
    replace H := bS H
    obtain ⟨t178, A25, H⟩ := H
    obtain rfl := Option.some.inj H
    obtain ⟨Ao26, co26, eo26⟩ := Kd.R_slice HO_5.out
    subst eo26
    go_wp2_with (first | (refine goesLA 44 Tryd.func86 #[.slice Ao26 x5_1.length co26] ?_; (with_reducible refine (N1limbs_trim.calls k1 (fun k_ => some k_ = (.slice Ao26 x5_1.length co26 : Value).ownBlock) _ _ x5_1 t178 _ ?side1 A25.out).mono ?_); (case side1 => exact Kd.R_V (Kd.R_tight rfl (HO_5.out))); rintro e w27 ⟨v179, rfl, ho0, hb⟩; refine ⟨_, rfl, ?_⟩; have n0_ := Aside0.mk (Kd.R_below zq22 hb); have n1_ := Aside0.mk (Kd.V_lower (Kd.V_mono (ok' := fun k_ => (w.heap.size ≤ k_)) ho0 (fun k_ hk_ => Or.elim hk_ (fun hs_ => ((HO_5.out).1 k_ hs_.symm)) (fun hn_ => (Nat.le_trans (below_size zH) hn_)))) (below_size zH)); have n2_ := sB hb; revert n0_ n1_ n2_; clear HO_5 HB; intro HO_5 HO180 HB; (try clear hb); (try clear hb2); (try clear hk); (try clear hi); (try clear ho0)))
    go_ret
    exact ⟨_, zE, by (with_reducible repeat (first | apply Kd.V_alloc | apply Kd.V_drewN | apply Kd.V_drew)); exact HO180.out, zH⟩
def N1divide.l0 : Nat → Int → Int → List Int → List Int → List Int → Int → Option (List Int × List Int)
 | 0, _, _, _, _, _, _ => none
 | k + 1, x8, x9, x10, x11, x12, x13 => if x13 ≥ 0 then (if 0 ≤ x13 then (if x13 ≤ (wrap64 ((wrap64 (x13 + x9)) + 1)) then (if (wrap64 ((wrap64 (x13 + x9)) + 1)) ≤ (x11.length : Int) then ((N1stepc.f k x11 x13 (wrap64 ((wrap64 (x13 + x9)) + 1)) x10).bind fun bt204 => (if x13 < (x12.length : Int) then (N1divide.l0 k x8 x9 x10 bt204.2 (x12.set (x13 : Int).toNat bt204.1) (wrap64 (x13 - 1))) else (none))) else (none)) else (none)) else (none)) else ((N1limbs_trim.f k x12).bind fun t207 => (if 0 ≤ x9 then (if x9 ≤ (x11.length : Int) then ((N1unshift.f k (x11.take (x9 : Int).toNat) x8).bind fun t214 => (some (t207, t214))) else (none)) else (none)))
def N1divide.f (k : Nat) (l0 : List Int) (l1 : List Int) : Option (List Int × List Int) := (N1compare.f k l0 l1).bind fun t181 => (if t181 < 0 then (some (([] : List Int), l0)) else (if (l1.length : Int) = 1 then (if 0 < (l1.length : Int) then ((N1divideSmall.f k l0 (rd l1 0)).bind fun bt183 => ((N1limbs_trim.f k (([bt183.2] : List Int))).bind fun t190 => (some (bt183.1, t190)))) else (none)) else (if 0 ≤ (wrap64 ((l1.length : Int) - 1)) then (if (wrap64 ((l1.length : Int) - 1)) < (l1.length : Int) then ((bits_LeadingZeros32.f (rd l1 (wrap64 ((l1.length : Int) - 1)))).bind fun t194 => ((N1shift.f k l1 (IntKind.u64.wrap (t194)) (l1.length : Int)).bind fun t195 => ((N1shift.f k l0 (IntKind.u64.wrap (t194)) (wrap64 ((l0.length : Int) + 1))).bind fun t198 => (if 0 ≤ (wrap64 ((wrap64 ((l0.length : Int) - (l1.length : Int))) + 1)) then (if (wrap64 ((wrap64 ((l0.length : Int) - (l1.length : Int))) + 1) : Int).toNat ≤ 70368744177664 then ((some (List.replicate (wrap64 ((wrap64 ((l0.length : Int) - (l1.length : Int))) + 1) : Int).toNat 0 : List Int)).bind fun y201 => (N1divide.l0 k (IntKind.u64.wrap (t194)) (l1.length : Int) t195 t198 y201 (wrap64 ((y201.length : Int) - 1)))) else (none)) else (none))))) else (none)) else (none))))
def N1divide.T15 : Bool × List (List Nat × List Nat) := (true, [([], []), ([0], [0]), ([], []), ([], []), ([2, 3], [2, 3]), ([], []), ([4, 5, 1], [4, 5]), ([1, 6, 0, 1], [1]), ([6, 7, 0, 1, 2, 3, 4, 5, 6, 7], [6])])
def N1divide.B15 : List Nat := [0, 1, 0, 0, 12, 0, 63, 127, 255]
theorem N1divide.tab15 : rtab .any (opsOf Tryd.f85 15) = N1divide.T15 := by kernel_rfl
theorem N1divide.bits15 : waitsOk N1divide.T15.2 N1divide.B15 = true := by kernel_rfl
set_option maxHeartbeats 8000000 in
set_option maxRecDepth 100000 in
theorem N1divide.calls (k : Nat) (P0_ : Nat → Prop) (A0 : Option Addr) (c0 : Nat) (l0 : List Int) (A1 : Option Addr) (c1 : Nat) (l1 : List Int) (r1 : List Int) (r2 : List Int) (w : World) (hs0 : Kd.V (Kd.int .u32) 86 w w.heap.size (fun k_ => P0_ k_) (.slice A0 l0.length c0) l0) (hr1 : Kd.C (Kd.int .u32) w A1 l1.length l1) (hc1 : l1.length ≤ c1) (h : N1divide.f k l0 l1 = some (r1, r2)) :
 Calls Tryd.prog 85 #[.slice A0 l0.length c0, .slice A1 l1.length c1] w fun e w' => ∃ v0_ v1_ : Value, e = .returned (.tuple #[v0_, v1_]) ∧ Kd.V (Kd.int .u32) 86 w' w.heap.size (fun k_ => (P0_ k_ ∨ w.heap.size ≤ k_)) v0_ r1 ∧ Kd.V (Kd.int .u32) 86 w' w.heap.size (fun k_ => (P0_ k_ ∨ w.heap.size ≤ k_)) v1_ r2 ∧ Below w.heap.size w w' := by
 have HO0 := Aside0.mk (show Kd.V (Kd.int .u32) 86 w w.heap.size (fun k_ => (P0_ k_ ∨ w.heap.size ≤ k_)) (.slice A0 l0.length c0) l0 from Kd.V_mono hs0 (fun k_ hk => .inl hk))
 have HR1 := Aside0.mk hr1
 have HC1 := Aside0.mk hc1
 clear hr1 hc1
 have HB := Aside0.mk (Below.refl w.heap.size w)
 have H : ((N1compare.f k l0 l1).bind fun t181 => (if t181 < 0 then (some (([] : List Int), l0)) else (if (l1.length : Int) = 1 then (if 0 < (l1.length : Int) then ((N1divideSmall.f k l0 (rd l1 0)).bind fun bt183 => ((N1limbs_trim.f k (([bt183.2] : List Int))).bind fun t190 => (some (bt183.1, t190)))) else (none)) else (if 0 ≤ (wrap64 ((l1.length : Int) - 1)) then (if (wrap64 ((l1.length : Int) - 1)) < (l1.length : Int) then ((bits_LeadingZeros32.f (rd l1 (wrap64 ((l1.length : Int) - 1)))).bind fun t194 => ((N1shift.f k l1 (IntKind.u64.wrap (t194)) (l1.length : Int)).bind fun t195 => ((N1shift.f k l0 (IntKind.u64.wrap (t194)) (wrap64 ((l0.length : Int) + 1))).bind fun t198 => (if 0 ≤ (wrap64 ((wrap64 ((l0.length : Int) - (l1.length : Int))) + 1)) then (if (wrap64 ((wrap64 ((l0.length : Int) - (l1.length : Int))) + 1) : Int).toNat ≤ 70368744177664 then ((some (List.replicate (wrap64 ((wrap64 ((l0.length : Int) - (l1.length : Int))) + 1) : Int).toNat 0 : List Int)).bind fun y201 => (N1divide.l0 k (IntKind.u64.wrap (t194)) (l1.length : Int) t195 t198 y201 (wrap64 ((y201.length : Int) - 1)))) else (none)) else (none))))) else (none)) else (none))))) = some (r1, r2) := h
 clear h
 replace H := bS H
 obtain ⟨t181, A3, H⟩ := H
 by_cases c4 : t181 < 0
 ·rw [if_pos c4] at H
  have c4b0 := decide_eq_true c4
  clear c4
  simp only [Option.some.injEq, Prod.mk.injEq] at H
  obtain ⟨rfl, rfl⟩ := H
  go_enter Tryd.func85, Tryd.ntmps85
  go_wp2_with (first | (refine goesLA 16 Tryd.func88 #[.slice A0 l0.length c0, .slice A1 l1.length c1] ?_; (with_reducible refine (N1compare.calls k _ _ l0 _ _ l1 t181 _ ?side1 ?side2 ?side3 ?side4 A3.out).mono ?_); (case side1 => exact sC (Kd.V_reads' HO0.out).2.2); (case side2 => exact (Kd.V_reads' HO0.out).2.1); (case side3 => exact sC HR1.out); (case side4 => exact HC1.out); rintro e w' ⟨rfl, ⟨nd, rfl⟩⟩; refine ⟨_, rfl, ?_⟩))
  go_ret2
  exact ⟨_, _, zE, Kd.V_mono (Kd.R_V zq47) (fun k_ hk => by first | exact ⟨(.inr (hk.1)), hk.2⟩ | exact (.inr (hk))), by (with_reducible repeat (first | apply Kd.V_alloc | apply Kd.V_drewN | apply Kd.V_drew)); exact HO0.out, zH⟩
 ·rw [if_neg c4] at H
  have c4b0 := decide_eq_false c4
  clear c4
  by_cases c5 : (l1.length : Int) = 1
  ·rw [if_pos c5] at H
   have c5b0 := beq_iff_eq.mpr c5
   have c5b1 : ((l1.length : Int) != 1) = false := bne_eq_false_iff_eq.mpr c5
   clear c5
   replace H := of_ite H
   obtain ⟨c6, H⟩ := H
   have c6b0 := decide_eq_true c6
   have c6b1 : decide (0 < l1.length) = true := decide_eq_true (by omega)
   clear c6
   replace H := bS H
   obtain ⟨⟨t183, t186⟩, A7, H⟩ := H
   (try dsimp only at H)
   obtain ⟨y187, hy187⟩ : ∃ y_ : List Int, y_ = (([t186] : List Int)) := ⟨_, rfl⟩
   (try rw [Option.bind_some] at H); (try rw [← hy187] at H)
   have Ny187 := Aside0.mk hy187
   clear hy187
   replace H := bS H
   obtain ⟨t190, A8, H⟩ := H
   simp only [Option.some.injEq, Prod.mk.injEq] at H
   obtain ⟨rfl, rfl⟩ := H
   go_enter Tryd.func85, Tryd.ntmps85
   go_wp2_with (first | (refine goesLA 16 Tryd.func88 #[.slice A0 l0.length c0, .slice A1 l1.length c1] ?_; (with_reducible refine (N1compare.calls k _ _ l0 _ _ l1 t181 _ ?side1 ?side2 ?side3 ?side4 A3.out).mono ?_); (case side1 => exact sC (Kd.V_reads' HO0.out).2.2); (case side2 => exact (Kd.V_reads' HO0.out).2.1); (case side3 => exact sC HR1.out); (case side4 => exact HC1.out); rintro e w' ⟨rfl, ⟨nd, rfl⟩⟩; refine ⟨_, rfl, ?_⟩; have p182 : 0 ≤ (0 : Int) := (by omega); have q182 : 0 < (l1.length : Int) := of_decide_eq_true zq0; obtain ⟨ad182, e182, hx182_0⟩ := Kd.at_int HR1.out 0 p182 q182; cases e182; have qi182 : (0 < l1.length) = True := eq_true (by omega); (try rw [show ((0 : Int)).toNat = 0 from rfl] at hx182_0); (try rw [Addr.add_zero'] at hx182_0); replace p182 := eq_true p182; replace q182 := eq_true q182) | (refine goesLA 27 Tryd.func97 #[.slice A0 l0.length c0, .int .u32 (rd l1 0)] ?_; (with_reducible refine (N1divideSmall.calls k _ _ l0 (rd l1 0) t183 t186 _ ?side1 ?side2 A7.out).mono ?_); (case side1 => exact sC (Kd.V_reads' HO0.out).2.2); (case side2 => exact (Kd.V_reads' HO0.out).2.1); rintro e w9 ⟨v184, rfl, ho0, hb⟩; refine ⟨_, rfl, ?_⟩; have n0_ := Aside0.mk (Kd.V_below zq6 hb); have n1_ := Aside0.mk (Kd.V_lower (Kd.V_mono (ok' := fun k_ => (P0_ k_ ∨ w.heap.size ≤ k_)) ho0 (fun k_ hk_ => (.inr (Nat.le_trans (below_size zH) hk_)))) (below_size zH)); have n2_ := sB hb; revert n0_ n1_ n2_; clear HO0 HB; intro HO0 HO185 HB; (try clear hb); (try clear hb2); (try clear hk); (try clear hi); (try clear ho0)) | ((with_reducible refine gate_dst (N := 32) rfl ?_); refine Kd.R_lit (Kd.int .u32) _ 86 ?hg (N := 32) ?hd (xs := ([t186] : List Int)) (inner := [.int .u32 t186]) (ok := fun _ => True) (okp := fun _ => True) ?hr ?hp (fun _ hk => hk) trivial (Below.refl _ _) (Nat.le_refl _) (by simp) ?_; (case hd => rfl); (case hg => rfl); (case hr => first | (go_simp; done) | (go_simp; rfl)); (case hp => exact (Reps.one (show Kd.M (Kd.int .u32) _ _ _ t186 [.int .u32 t186] from rfl) (Reps.none _ _))); intro v188 w10 ho11 hb hg_ hnew_; clear hg_ hnew_; (first | rw [← Ny187.out] at ho11 | (simp only [Int.reduceToNat] at ho11; rw [← Ny187.out] at ho11)); have n0_ := Aside0.mk (Kd.V_elder' zq6 (Kd.R_base ho11) hb); have n1_ := Aside0.mk (Kd.V_elder' (by (with_reducible repeat (first | apply Kd.V_alloc | apply Kd.V_drewN | apply Kd.V_drew)); exact HO185.out) (Kd.R_base ho11) hb); have n2_ := Aside0.mk (Kd.R_lower (Kd.R_newM (M := fun k_ => (w.heap.size ≤ k_)) ho11 (below_size zH) (fun k_ h_ => h_)) (below_size zH)); have n3_ := sB hb; revert n0_ n1_ n2_ n3_; clear HO0 HO185 HB; intro HO0 HO185 HO189 HB; clear hb ho11; obtain ⟨Ao12, co12, eo12⟩ := Kd.R_slice HO189.out; subst eo12) | (refine goesLA 33 Tryd.func86 #[.slice Ao12 y187.length co12] ?_; (with_reducible refine (N1limbs_trim.calls k (fun k_ => some k_ = (.slice Ao12 y187.length co12 : Value).ownBlock) _ _ y187 t190 _ ?side1 A8.out).mono ?_); (case side1 => exact Kd.R_V (Kd.R_tight rfl (HO189.out))); rintro e w13 ⟨v191, rfl, ho0, hb⟩; refine ⟨_, rfl, ?_⟩; have n0_ := Aside0.mk (Kd.V_below zq6 hb); have n1_ := Aside0.mk (Kd.V_below (by (with_reducible repeat (first | apply Kd.V_alloc | apply Kd.V_drewN | apply Kd.V_drew)); exact HO185.out) hb); have n2_ := Aside0.mk (Kd.R_below (by (with_reducible repeat (first | apply Kd.R_alloc | apply Kd.R_drewN | apply Kd.R_drew)); exact HO189.out) hb); have n3_ := Aside0.mk (Kd.V_lower (Kd.V_mono (ok' := fun k_ => (P0_ k_ ∨ w.heap.size ≤ k_)) ho0 (fun k_ hk_ => Or.elim hk_ (fun hs_ => (.inr (((HO189.out).1 k_ hs_.symm).1))) (fun hn_ => (.inr (Nat.le_trans (below_size zH) hn_))))) (below_size zH)); have n4_ := sB hb; revert n0_ n1_ n2_ n3_ n4_; clear HO0 HO185 HO189 HB; intro HO0 HO185 HO189 HO192 HB; (try clear hb); (try clear hb2); (try clear hk); (try clear hi); (try clear ho0)))
   go_ret2
   exact ⟨_, _, zE, by (with_reducible repeat (first | apply Kd.V_alloc | apply Kd.V_drewN | apply Kd.V_drew)); exact Kd.V_mono HO185.out (fun _ hk => hk.1), by (with_reducible repeat (first | apply Kd.V_alloc | apply Kd.V_drewN | apply Kd.V_drew)); exact HO192.out, zH⟩
  ·rw [if_neg c5] at H
   have c5b0 := beq_eq_false_iff_ne.mpr c5
   have c5b1 := bne_iff_ne.mpr c5
   obtain ⟨ji14, hji14, hji14w⟩ := jI ((l1.length : Int) - 1)
   first | rw [hji14] at H | simp only [hji14] at H
   (try rw [hji14] at A3)
   replace H := iteD H
   obtain ⟨c15b0, H⟩ := H
   replace H := iteD H
   obtain ⟨c16b0, H⟩ := H
   replace H := bS H
   obtain ⟨t194, A17, H⟩ := H
   replace H := bS H
   obtain ⟨t195, A18, H⟩ := H
   replace H := bS H
   obtain ⟨t198, A19, H⟩ := H
   obtain ⟨ji20, hji20, hji20w⟩ := jI ((wrap64 ((l0.length : Int) - (l1.length : Int))) + 1)
   first | rw [hji20] at H | simp only [hji20] at H
   (try rw [hji20] at A3)
   (try rw [hji20] at A17)
   (try rw [hji20] at A18)
   (try rw [hji20] at A19)
   replace H := iteE H
   obtain ⟨c21b0, c21b1, H⟩ := H
   replace H := iteE H
   obtain ⟨c22b0, c22b1, H⟩ := H
   obtain ⟨y201, hy201⟩ : ∃ y_ : List Int, y_ = (List.replicate (ji20 : Int).toNat 0) := ⟨_, rfl⟩
   (try rw [Option.bind_some] at H); (try rw [← hy201] at H)
   have Ny201 := Aside0.mk hy201
   clear hy201
   have H' := Aside0.mk H
   clear H
   go_enter Tryd.func85, Tryd.ntmps85
   go_wp2_with (first | (refine goesLA 16 Tryd.func88 #[.slice A0 l0.length c0, .slice A1 l1.length c1] ?_; (with_reducible refine (N1compare.calls k _ _ l0 _ _ l1 t181 _ ?side1 ?side2 ?side3 ?side4 A3.out).mono ?_); (case side1 => exact sC (Kd.V_reads' HO0.out).2.2); (case side2 => exact (Kd.V_reads' HO0.out).2.1); (case side3 => exact sC HR1.out); (case side4 => exact HC1.out); rintro e w' ⟨rfl, ⟨nd, rfl⟩⟩; refine ⟨_, rfl, ?_⟩; have p193 : 0 ≤ ((ji14) : Int) := of_decide_eq_true zq0; have q193 : (ji14) < (l1.length : Int) := of_decide_eq_true zq0; obtain ⟨ad193, e193, hx193_0⟩ := Kd.at_int HR1.out (ji14) p193 q193; cases e193; replace p193 := eq_true p193; replace q193 := eq_true q193) | ((with_reducible refine gate_callee (f := 98) rfl ?_); refine goesL_ (some 40) rfl rfl Tryd.func98 (by kernel_rfl) rfl #[.int .u32 (rd l1 (ji14))] rfl (by (try simp only [List.map_toArray, List.map_cons, List.map_nil]); first | done | (simp only [hji14]; rfl) | rfl | (simp only [List.length_drop, List.length_take]; rfl)) ?_; (with_reducible refine (bits_LeadingZeros32.calls (rd l1 (ji14)) t194 _ A17.out).mono ?_); rintro e w' ⟨rfl, ⟨nd, rfl⟩⟩; refine ⟨_, rfl, ?_⟩) | (refine goesLA 47 Tryd.func99 #[.slice (some ad193) l1.length c1, .int .u64 (IntKind.u64.wrap (t194)), .int .i64 (l1.length : Int)] ?_; (with_reducible refine (N1shift.calls k _ _ l1 (IntKind.u64.wrap (t194)) (l1.length : Int) t195 _ ?side1 ?side2 A18.out).mono ?_); (case side1 => exact sC HR1.out); (case side2 => exact HC1.out); rintro e w23 ⟨v196, rfl, ho0, hb⟩; refine ⟨_, rfl, ?_⟩; have n0_ := Aside0.mk (Kd.V_elder' zq6 (Kd.R_base ho0) hb); have n1_ := Aside0.mk (Kd.R_lower (Kd.R_newM (M := fun k_ => (w.heap.size ≤ k_)) ho0 (below_size zH) (fun k_ h_ => h_)) (below_size zH)); have n2_ := sB hb; revert n0_ n1_ n2_; clear HO0 HB; intro HO0 HO197 HB; (try clear hb); (try clear hb2); (try clear hk); (try clear hi); (try clear ho0)) | (refine goesLA 53 Tryd.func99 #[.slice A0 l0.length c0, .int .u64 (IntKind.u64.wrap (t194)), .int .i64 (wrap64 ((l0.length : Int) + 1))] ?_; (with_reducible refine (N1shift.calls k _ _ l0 (IntKind.u64.wrap (t194)) (wrap64 ((l0.length : Int) + 1)) t198 _ ?side1 ?side2 A19.out).mono ?_); (case side1 => exact sC (Kd.V_reads' HO0.out).2.2); (case side2 => exact (Kd.V_reads' HO0.out).2.1); rintro e w24 ⟨v199, rfl, ho0, hb⟩; refine ⟨_, rfl, ?_⟩; have n0_ := Aside0.mk (Kd.V_elder' zq6 (Kd.R_base ho0) hb); have n1_ := Aside0.mk (Kd.R_elder' zq23 (Kd.R_base ho0) hb); have n2_ := Aside0.mk (Kd.R_lower (Kd.R_new' (Kd.R_newM (M := fun k_ => (w.heap.size ≤ k_)) ho0 (below_size zH) (fun k_ h_ => h_)) (Kd.R_lt zq23)) (below_size zH)); have n3_ := sB hb; revert n0_ n1_ n2_ n3_; clear HO0 HO197 HB; intro HO0 HO197 HO200 HB; (try clear hb); (try clear hb2); (try clear hk); (try clear hi); (try clear ho0)) | ((with_reducible refine gate_dst (N := 59) rfl ?_); refine Kd.R_make (Kd.int .u32) _ 86 rfl (N := 59) rfl 84 _ _ rfl ji20 rfl rfl Tryd.underlying84 (.int .u32 0) 4 info86 rfl (by decide) (by omega) 0 (ok := fun _ => True) (okp := fun _ => True) rfl (fun _ hk => hk) trivial (of_decide_eq_true zq0) (Nat.le_trans (Nat.mul_le_mul_right _ (of_decide_eq_true zq0 : ji20.toNat ≤ 70368744177664)) (by omega)) (Below.refl _ _) (Nat.le_refl _) ?_; intro v202 w25 ho26 hb hg_ hnew_; clear hg_ hnew_; (first | rw [← Ny201.out] at ho26 | (simp only [Int.reduceToNat] at ho26; rw [← Ny201.out] at ho26)); have n0_ := Aside0.mk (Kd.V_elder' zq6 (Kd.R_base ho26) hb); have n1_ := Aside0.mk (Kd.R_elder' zq23 (Kd.R_base ho26) hb); have n2_ := Aside0.mk (Kd.R_elder' (by (with_reducible repeat (first | apply Kd.R_alloc | apply Kd.R_drewN | apply Kd.R_drew)); exact HO200.out) (Kd.R_base ho26) hb); have n3_ := Aside0.mk (Kd.R_lower (Kd.R_new' (Kd.R_new' (Kd.R_newM (M := fun k_ => (w.heap.size ≤ k_)) ho26 (below_size zH) (fun k_ h_ => h_)) (Kd.R_lt zq23)) (Kd.R_lt (by (with_reducible repeat (first | apply Kd.R_alloc | apply Kd.R_drewN | apply Kd.R_drew)); exact HO200.out))) (below_size zH)); have n4_ := sB hb; revert n0_ n1_ n2_ n3_ n4_; clear HO0 HO197 HO200 HB; intro HO0 HO197 HO200 HO203 HB; clear hb ho26; obtain ⟨Ao27, co27, eo27⟩ := Kd.R_slice HO203.out; subst eo27))
   go_loopg [13] k (fun kq v13 w' => ∃ (x10_1 : List Int) (x11_1 : List Int) (x12_1 : List Int) (x13_1 : Int), v13 = .int .i64 x13_1 ∧ Aside0 (N1divide.l0 kq (IntKind.u64.wrap (t194)) (l1.length : Int) x10_1 x11_1 x12_1 x13_1 = some (r1, r2)) ∧ Aside0 (kq ≤ k) ∧ Aside0 (Kd.R (Kd.int .u32) 86 w' w.heap.size (fun k_ => (w.heap.size ≤ k_) ∧ some k_ ≠ (v199 : Value).ownBlock ∧ some k_ ≠ ((.slice Ao27 y201.length co27) : Value).ownBlock) v196 x10_1) ∧ Aside0 (Kd.R (Kd.int .u32) 86 w' w.heap.size (fun k_ => (w.heap.size ≤ k_) ∧ some k_ ≠ (v196 : Value).ownBlock ∧ some k_ ≠ ((.slice Ao27 y201.length co27) : Value).ownBlock) v199 x11_1) ∧ Aside0 (Kd.R (Kd.int .u32) 86 w' w.heap.size (fun k_ => (w.heap.size ≤ k_) ∧ some k_ ≠ (v196 : Value).ownBlock ∧ some k_ ≠ (v199 : Value).ownBlock) (.slice Ao27 y201.length co27) x12_1) ∧ Aside0 (Below w.heap.size w w'))
   case atStart => exact ⟨(t195), (t198), (y201), (wrap64 ((y201.length : Int) - 1)), zq1, H', ⟨Nat.le_refl _⟩, ⟨by (with_reducible repeat (first | apply Kd.R_alloc | apply Kd.R_drewN | apply Kd.R_drew)); exact Kd.R_mono HO197.out (fun _ hk => ⟨hk.1.1.1, ⟨hk.1.2, hk.2⟩⟩)⟩, ⟨by (with_reducible repeat (first | apply Kd.R_alloc | apply Kd.R_drewN | apply Kd.R_drew)); exact Kd.R_mono HO200.out (fun _ hk => ⟨hk.1.1.1, ⟨hk.1.2, hk.2⟩⟩)⟩, ⟨by (with_reducible repeat (first | apply Kd.R_alloc | apply Kd.R_drewN | apply Kd.R_drew)); exact Kd.R_mono HO203.out (fun _ hk => ⟨hk.1.1.1, ⟨hk.1.2, hk.2⟩⟩)⟩, ⟨zH⟩⟩
   case round =>
    clear H'
    (try clear qi1); (try clear c2); (try clear p2); (try clear c4); (try clear c4b0); (try clear c5); (try clear c5b0); (try clear c5b1); (try clear c6); (try clear c6b0); (try clear c6b1); (try clear p6); (try clear c8); (try clear c9); (try clear c15); (try clear c15b0); (try clear c16); (try clear c16b0); (try clear p18); (try clear q18); (try clear hx18); (try clear qi18); (try clear p19); (try clear q19); (try clear hx19); (try clear c21); (try clear c21b0); (try clear c21b1); (try clear c22); (try clear c22b0); (try clear c22b1); (try clear hx182_0); (try clear hx193_0); (try clear p182); (try clear p193); (try clear q182); (try clear q193)
    obtain ⟨x10_1, x11_1, x12_1, x13_1, rfl, HA, HK1, HO_10, HO_11, HO_12, HB⟩ := hrel
    have hl12_1 := (Kd.R_reads' HO_12.out).1
    rw [hl12_1] at HO_12
    (try simp only [hl12_1])
    (try simp only [hl12_1] at HO_10)
    (try simp only [hl12_1] at HO_11)
    cases gk with
    | zero => exact absurd HA.out (by simp [N1divide.l0])
    | succ k1 =>
     have H := HA.out
     clear HA
     simp only [N1divide.l0] at H
     by_cases c28 : x13_1 ≥ 0
     ·rw [if_pos c28] at H
      have c28b0 := decide_eq_true c28
      clear c28
      replace H := iteE H
      obtain ⟨c29b0, c29b1, H⟩ := H
      replace H := of_ite H
      obtain ⟨c30, H⟩ := H
      have c30b0 := eq_true c30
      have c30b1 := decide_eq_true c30
      replace H := of_ite H
      obtain ⟨c31, H⟩ := H
      have c31b0 := eq_true c31
      have c31b1 := decide_eq_true c31
      replace H := bS H
      obtain ⟨⟨t204, t205⟩, A32, H⟩ := H
      (try dsimp only at H)
      replace H := of_ite H
      obtain ⟨c33, H⟩ := H
      have c33b0 := decide_eq_true c33
      (try (have c33x0 := c33b0; simp only [hl12_1] at c33x0))
      clear c33
      obtain ⟨y206, hy206⟩ : ∃ y_ : List Int, y_ = (x12_1.set (x13_1 : Int).toNat t204) := ⟨_, rfl⟩
      (try rw [Option.bind_some] at H); (try rw [← hy206] at H)
      have Ny206 := Aside0.mk hy206
      clear hy206
      have H' := Aside0.mk H
      clear H
      obtain ⟨Ao35, co35, eo35⟩ := Kd.R_slice HO_11.out
      subst eo35
      obtain ⟨Ao36, co36, eo36⟩ := Kd.R_slice HO_10.out
      subst eo36
      obtain ⟨i0cq, hi0cq, _, hszcq, _⟩ := info_parts info86
      have hcutcq := cut_mid (P := Tryd.prog) 84 86 .i64 .i64 Tryd.underlying84 hi0cq 1 hszcq Ao35 x11_1.length co35 x13_1 (wrap64 ((wrap64 (x13_1 + (l1.length : Int))) + 1)) (of_eq_true c29b0) (of_eq_true c30b0) (of_eq_true c31b0) (Kd.R_reads' HO_11.out).2.1
      obtain ⟨Acq, hAcq_⟩ : ∃ z_, z_ = (if co35 = (x13_1 : Int).toNat then Ao35 else (Ao35 : Option Addr).map (·.add ((x13_1 : Int).toNat * 1))) := ⟨_, rfl⟩
      obtain ⟨ncq, hncq_⟩ : ∃ z_, z_ = ((wrap64 ((wrap64 (x13_1 + (l1.length : Int))) + 1)) : Int).toNat - (x13_1 : Int).toNat := ⟨_, rfl⟩
      obtain ⟨ccq, hccq_⟩ : ∃ z_, z_ = co35 - (x13_1 : Int).toNat := ⟨_, rfl⟩
      rw [← hAcq_, ← hncq_, ← hccq_] at hcutcq
      have hAcq := Aside0.mk hAcq_
      have hncq := Aside0.mk hncq_
      have hccq := Aside0.mk hccq_
      have h0cq := Aside0.mk (of_eq_true c29b0)
      have hhcq := Aside0.mk (of_eq_true c31b0)
      clear hAcq_ hncq_ hccq_ hi0cq hszcq
      go_wp2_with (first | (refine goesLA 77 Tryd.func100 #[.slice Acq ncq ccq, .slice Ao36 x10_1.length co36] ?_; (with_reducible refine (N1stepc.calls k1 (fun k_ => some k_ = (.slice Ao35 x11_1.length co35 : Value).ownBlock) Ao35 co35 x11_1 x13_1 (wrap64 ((wrap64 (x13_1 + (l1.length : Int))) + 1)) _ _ x10_1 t204 t205 w _ ?side1 ?side2 ?side3 ?side4 h0cq.out hhcq.out hAcq.out hncq.out hccq.out A32.out).mono ?_); (case side1 => repeat (first | (with_reducible first | exact HB.out | apply below_alloc | apply pw_below_drewN | apply below_drew1) | exact HB.out)); (case side2 => exact Kd.R_tight rfl HO_11.out); (case side3 => exact Kd.C_kept_own (HO_10.out) (fun k_ hk_ hs_ => (hk_.2.1) hs_)); (case side4 => exact (Kd.R_reads' HO_10.out).2.1); rintro e w37 ⟨rfl, hy0, hb, hkp⟩; refine ⟨_, rfl, ?_⟩; have n0_ := Aside0.mk (Kd.R_mono (ok' := fun k_ => (w.heap.size ≤ k_) ∧ some k_ ≠ (.slice Ao35 x11_1.length co35 : Value).ownBlock ∧ some k_ ≠ (.slice Ao27 x12_1.length co27 : Value).ownBlock) (Kd.R_keptB (HO_10.out) hkp (fun k_ hk_ hs_ => (hk_.2.1) hs_)) (fun k_ hk_ => ⟨hk_.1.1, hk_.1.2.1, hk_.1.2.2⟩)); have n1_ := Aside0.mk (Kd.R_reok rfl hy0 (fun k_ e_ => HO_11.out.1 k_ e_)); have n2_ := Aside0.mk (Kd.R_mono (ok' := fun k_ => (w.heap.size ≤ k_) ∧ some k_ ≠ (.slice Ao36 x10_1.length co36 : Value).ownBlock ∧ some k_ ≠ (.slice Ao35 x11_1.length co35 : Value).ownBlock) (Kd.R_keptB (HO_12.out) hkp (fun k_ hk_ hs_ => (hk_.2.2) hs_)) (fun k_ hk_ => ⟨hk_.1.1, hk_.1.2.1, hk_.1.2.2⟩)); have n3_ := Aside0.mk (hb); revert n0_ n1_ n2_ n3_; clear HO_10 HO_11 HO_12 HB; intro HO_10 HO_11 HO_12 HB; (try clear hb); (try clear hkp); (try clear hy0); have p34 : 0 ≤ (x13_1 : Int) := of_decide_eq_true zq0; have q34 : (x13_1 : Int) < ((x12_1.length : Int) : Int) := of_decide_eq_true zq0; obtain ⟨go34, co34, eo34, gb34, gl34, cl34, HG34⟩ := Kd.R_form HO_12.out (by omega); (first | cases eo34 | (injection eo34 with ea_ en_ ec_; (first | subst ea_ | (injection ea_ with ea_; subst ea_)); subst ec_; clear en_)); have GB34 := Aside0.mk gb34; have GG34 := Aside0.mk HG34; clear gb34 gl34 HG34; obtain ⟨hx34_0, hf34_0⟩ := Kd.R_celln 0 HO_12.out (x13_1 : Int) p34 q34; replace p34 := eq_true p34; replace q34 := eq_true q34; obtain ⟨hy38_, hz38_⟩ := Kd.R_celln 0 HO_12.out (x13_1 : Int) (of_decide_eq_true zq0) (of_decide_eq_true zq0); have HP38 := Kd.R_putg HO_12.out (x13_1 : Int) t204) | ((with_reducible refine gate_store (t := 86) (p := 78) rfl ?_); refine store_event (t := 86) (p := 78) (v := ?vo_w39) (w1 := (w37.setCell ⟨go34, (x13_1 : Int).toNat, none⟩ (.int .u32 t204))) ?hg ?ho ?hn ?hr ?_; (case ho => rfl); (case hg => rfl); (case hn => rfl); (case hr => first | (go_simp; done) | (go_simp; rfl)); intro w39 hw; have hg : w37.grownBy w39 (some go34) := (by rw [hw]; exact HP38.2); have hp_ : Kd.R (Kd.int .u32) 86 w39 w.heap.size (fun k_ => (w.heap.size ≤ k_) ∧ some k_ ≠ (.slice Ao36 x10_1.length co36 : Value).ownBlock ∧ some k_ ≠ (.slice Ao35 x11_1.length co35 : Value).ownBlock) (.slice (some ⟨go34, 0, none⟩) x12_1.length co27) y206 := (by rw [hw, Ny206.out]; exact HP38.1); clear HP38; have n0_ := Aside0.mk (Kd.R_after (v := (.slice (some ⟨go34, 0, none⟩) x12_1.length co27)) (v1 := (.slice (some ⟨go34, 0, none⟩) x12_1.length co27)) (ok := (fun k_ => (w.heap.size ≤ k_) ∧ some k_ ≠ (.slice Ao35 x11_1.length co35 : Value).ownBlock)) (by (with_reducible repeat (first | apply Kd.R_alloc | apply Kd.R_drewN | apply Kd.R_drew)); exact Kd.R_mono HO_10.out (fun _ hk => ⟨⟨hk.1, hk.2.1⟩, hk.2.2⟩)) hg (.inl rfl)); have n1_ := Aside0.mk (Kd.R_after (v := (.slice (some ⟨go34, 0, none⟩) x12_1.length co27)) (v1 := (.slice (some ⟨go34, 0, none⟩) x12_1.length co27)) (ok := (fun k_ => (w.heap.size ≤ k_) ∧ some k_ ≠ (.slice Ao36 x10_1.length co36 : Value).ownBlock)) (by (with_reducible repeat (first | apply Kd.R_alloc | apply Kd.R_drewN | apply Kd.R_drew)); exact Kd.R_mono HO_11.out (fun _ hk => ⟨⟨hk.1, hk.2.1⟩, hk.2.2⟩)) hg (.inl rfl)); have n2_ := Aside0.mk (hp_); have n3_ := Aside0.mk ((by rw [hw]; exact below_set (HB.out) GB34.out : Below w.heap.size w w39)); revert n0_ n1_ n2_ n3_; clear HO_10 HO_11 HO_12 HB; intro HO_10 HO_11 HO_12 HB; clear hg hw hp_))
      (try simp only [← hl12_1])
      go_roundg k1
      case measure => have := HK1.out; omega
      case rel => exact ⟨(x10_1), (t205), (y206), (wrap64 (x13_1 - 1)), zq1, H', ⟨by have := HK1.out; omega⟩, ⟨by (try simp only [hl12_1]); (with_reducible repeat (first | apply Kd.R_alloc | apply Kd.R_drewN | apply Kd.R_drew)); exact Kd.R_mono HO_10.out (fun _ hk => ⟨hk.1.1, ⟨hk.1.2, hk.2⟩⟩)⟩, ⟨by (try simp only [hl12_1]); (with_reducible repeat (first | apply Kd.R_alloc | apply Kd.R_drewN | apply Kd.R_drew)); exact Kd.R_mono HO_11.out (fun _ hk => ⟨hk.1.1, ⟨hk.1.2, hk.2⟩⟩)⟩, ⟨by (try simp only [hl12_1]); (with_reducible repeat (first | apply Kd.R_alloc | apply Kd.R_drewN | apply Kd.R_drew)); exact HO_12.out⟩, ⟨zH⟩⟩
     ·rw [if_neg c28] at H
      have c28b0 := decide_eq_false c28
      clear c28
      replace H := bS H
      obtain ⟨t207, A40, H⟩ := H
      replace H := iteE H
      obtain ⟨c41b0, c41b1, H⟩ := H
      replace H := iteE H
      obtain ⟨c42b0, c42b1, H⟩ := H
      obtain ⟨y210, hy210⟩ : ∃ y_ : List Int, y_ = (x11_1.take ((l1.length : Int) : Int).toNat) := ⟨_, rfl⟩
      (try rw [Option.bind_some] at H); (try rw [← hy210] at H)
      have Ny210 := Aside0.mk hy210
      clear hy210
      replace H := bS H
      obtain ⟨t214, A43, H⟩ := H
      simp only [Option.some.injEq, Prod.mk.injEq] at H
      obtain ⟨rfl, rfl⟩ := H
      try go_wp2
      have n0_ := Aside0.mk (Kd.R_drew HO_10.out)
      have n1_ := Aside0.mk (Kd.R_drew HO_11.out)
      have n2_ := Aside0.mk (Kd.R_drew HO_12.out)
      have n3_ := Aside0.mk (below_drew1 HB.out)
      revert n0_ n1_ n2_ n3_
      clear HO_10 HO_11 HO_12 HB
      intro HO_10 HO_11 HO_12 HB
      obtain ⟨Ao46, co46, eo46⟩ := Kd.R_slice HO_11.out
      (first | subst eo46 | (injection eo46 with f1_ f2_ f3_; have f4_ := f1_.symm; have f5_ := f3_.symm; clear f1_ f2_ f3_; subst f4_; subst f5_))
      have q45 : ((l1.length : Int) : Int) ≤ ((x11_1.length : Int) : Int) := of_decide_eq_true zq0
      obtain ⟨i045, hi045, _, hsz45, _⟩ := info_parts info86
      have hroom45 : x11_1.length ≤ co46 := (Kd.R_reads' HO_11.out).2.1
      have hC45 : Kd.C (Kd.int .u32) _ Ao46 x11_1.length x11_1 := (Kd.R_reads' HO_11.out).2.2
      have hcut45 := cut_to (P := Tryd.prog) 84 86 .i64 Tryd.underlying84 hi045 Ao46 x11_1.length co46 (l1.length : Int) (of_decide_eq_true zq0) q45 hroom45
      have hr45 := Kd.C_take (m := ((l1.length : Int) : Int).toNat) hC45 (by omega)
      have hy45 : y210.length = ((l1.length : Int) : Int).toNat := (by rw [Ny210.out, List.length_take]; omega)
      rw [← Ny210.out] at hr45
      rw [← hy45] at hcut45
      have HR213 := Aside0.mk hr45
      have HC213 := Aside0.mk (show y210.length ≤ co46 from by omega)
      clear hr45 hC45 hroom45 hi045 hsz45
      have KY45 := Aside0.mk hy45
      clear hy45
      have KL45 := Aside0.mk (show ((l1.length : Int) : Int).toNat ≤ x11_1.length from by omega)
      replace q45 := eq_true q45
      refine start_ (n := 9) (S := fun w' => True) (ds := []) #[false, false, false, false, false, false, false, false, false] (by kernel_rfl) rfl rfl trivial (fun hHeld => ?_); refine with_tabW N1divide.tab15 N1divide.bits15 (fun HT_ HW_ => ?_)
      generalize wr.drew = w44 at HO_10 HO_11 HO_12 HB HR213 hHeld ⊢
      refine pureA 0 79 (lB 9 1) rfl rfl ?_
      refine pureA 2 81 (lB 9 5) rfl rfl ?_
      refine pureA 3 82 (lB 9 13) rfl rfl ?_
      refine pureA 4 83 (lB 9 29) rfl rfl ?_
      refine pureA 5 84 (lB 9 61) rfl rfl ?_
      refine oneA 1 80 (lB 9 63) rfl rfl (fun K hK => ?_)
      refine goes_ Tryd.func86 (by kernel_rfl) rfl #[.slice Ao27 x12_1.length co27] (by rfl) rfl rfl zq2 ?_
      with_reducible refine (N1limbs_trim.calls k1 (fun k_ => some k_ = (.slice Ao27 x12_1.length co27 : Value).ownBlock) _ _ x12_1 t207 _ ?side1 A40.out).mono ?_
      (case side1 => exact Kd.R_V (Kd.R_tight rfl (HO_12.out)))
      rintro e w47 ⟨v208, rfl, ho0, hb⟩
      refine ⟨_, rfl, ?_⟩
      have n0_ := Aside0.mk (Kd.R_below zq7 hb)
      have n1_ := Aside0.mk (Kd.R_below zq24 hb)
      have n2_ := Aside0.mk (Kd.R_below zq40 hb)
      have n3_ := Aside0.mk (Kd.V_lower (Kd.V_mono (ok' := fun k_ => (P0_ k_ ∨ w.heap.size ≤ k_) ∧ some k_ ≠ (v196 : Value).ownBlock ∧ some k_ ≠ (.slice Ao46 x11_1.length co46 : Value).ownBlock) ho0 (fun k_ hk_ => ⟨Or.elim hk_ (fun hs_ => (.inr (((HO_12.out).1 k_ hs_.symm).1))) (fun hn_ => (.inr (Nat.le_trans (below_size zH) hn_))), Or.elim hk_ (fun hs_ => ((HO_12.out).1 k_ hs_.symm).2.1) (fun hn_ => (Kd.fresh' (Kd.R_lt zq7) k_ hn_)), Or.elim hk_ (fun hs_ => ((HO_12.out).1 k_ hs_.symm).2.2) (fun hn_ => (Kd.fresh' (Kd.R_lt zq24) k_ hn_))⟩)) (below_size zH))
      have n4_ := Aside0.mk (Kd.C_below (by repeat (first | (with_reducible exact HR213.out) | (with_reducible refine Kd.C_alloc ?_ _) | (with_reducible refine Kd.C_drewN ?_ _) | (with_reducible refine Kd.C_drew ?_) | exact HR213.out)) hb)
      have n5_ := sB hb
      revert n0_ n1_ n2_ n3_ n4_ n5_
      clear HO_10 HO_11 HO_12 HR213 HB
      intro HO_10 HO_11 HO_12 HO209 HR213 HB
      (try clear hb); (try clear hb2); (try clear hk); (try clear hi); (try clear ho0)
      refine hK.out _ _ trivial (fun hHeld => ?_)
      clear hK K
      refine normA (N := 80) ?_
      refine oneA 6 85 (lB 9 127) rfl rfl (fun K hK => ?_)
      refine goes_ Tryd.func101 (by kernel_rfl) rfl #[.slice Ao46 y210.length co46, .int .u64 (IntKind.u64.wrap (t194))] (by rfl) rfl rfl zq2 ?_
      with_reducible refine (N1unshift.calls k1 _ _ y210 (IntKind.u64.wrap (t194)) t214 _ ?side1 ?side2 A43.out).mono ?_
      (case side1 => repeat (first | exact (by repeat (first | (with_reducible exact HR213.out) | (with_reducible refine Kd.C_alloc ?_ _) | (with_reducible refine Kd.C_drewN ?_ _) | (with_reducible refine Kd.C_drew ?_) | exact HR213.out)) | (with_reducible refine Kd.C_alloc ?_ _) | (with_reducible refine Kd.C_drewN ?_ _) | (with_reducible refine Kd.C_drew ?_)))
      (case side2 => exact HC213.out)
      rintro e w48 ⟨v215, rfl, ho0, hb⟩
      refine ⟨_, rfl, ?_⟩
      have n0_ := Aside0.mk (Kd.R_below zq7 hb)
      have n1_ := Aside0.mk (Kd.R_below zq24 hb)
      have n2_ := Aside0.mk (Kd.R_below zq40 hb)
      have n3_ := Aside0.mk (Kd.V_below (by (with_reducible repeat (first | apply Kd.V_alloc | apply Kd.V_drewN | apply Kd.V_drew)); exact HO209.out) hb)
      have n4_ := Aside0.mk (Kd.V_lower (Kd.V_mono (ok' := fun k_ => (P0_ k_ ∨ w.heap.size ≤ k_) ∧ some k_ ≠ (v196 : Value).ownBlock ∧ some k_ ≠ (.slice Ao46 x11_1.length co46 : Value).ownBlock ∧ some k_ ≠ (.slice Ao27 x12_1.length co27 : Value).ownBlock) ho0 (fun k_ hk_ => ⟨(.inr (Nat.le_trans (below_size zH) hk_)), (Kd.fresh' (Kd.R_lt zq7) k_ hk_), (Kd.fresh' (Kd.R_lt zq24) k_ hk_), (Kd.fresh' (Kd.R_lt zq40) k_ hk_)⟩)) (below_size zH))
      have n5_ := Aside0.mk (Kd.C_below (by repeat (first | (with_reducible exact HR213.out) | (with_reducible refine Kd.C_alloc ?_ _) | (with_reducible refine Kd.C_drewN ?_ _) | (with_reducible refine Kd.C_drew ?_) | exact HR213.out)) hb)
      have n6_ := sB hb
      revert n0_ n1_ n2_ n3_ n4_ n5_ n6_
      clear HO_10 HO_11 HO_12 HO209 HR213 HB
      intro HO_10 HO_11 HO_12 HO209 HO216 HR213 HB
      (try clear hb); (try clear hb2); (try clear hk); (try clear hi); (try clear ho0)
      refine hK.out _ _ trivial (fun hHeld => ?_)
      clear hK K
      refine normA (N := 85) ?_
      refine pureA 7 4 (lB 9 255) rfl rfl ?_
      refine pureA 8 5 (lB 9 511) rfl rfl ?_
      refine done_ (done_of HT_.out (by kernel_rfl)) ?_
      try go_wp2
      go_ret2
      exact ⟨_, _, by first | rfl | (simp [errW_none, errW_some] <;> rfl) | (simp only [← hji14, ← hji20]; first | rfl | (simp [errW_none, errW_some] <;> rfl)) | (simp [*, errW_none, errW_some] <;> rfl), by (with_reducible repeat (first | apply Kd.V_alloc | apply Kd.V_drewN | apply Kd.V_drew)); exact Kd.V_mono HO209.out (fun _ hk => hk.1), by (with_reducible repeat (first | apply Kd.V_alloc | apply Kd.V_drewN | apply Kd.V_drew)); exact Kd.V_mono HO216.out (fun _ hk => hk.1), zH⟩
def N1GCD.l0 : Nat → List Int → List Int → Option (ByteArray)
 | 0, _, _ => none
 | k + 1, x5, x6 => if (x6.length : Int) > 0 then ((N1divide.f k x5 x6).bind fun bt223 => (N1GCD.l0 k x6 bt223.2)) else ((N1limbs_text.f k x5).bind fun t229 => (some t229))
def N1GCD.f (k : Nat) (a0 : ByteArray) (a1 : ByteArray) : Option (ByteArray) := (N1parse.f k a0).bind fun t217 => ((N1parse.f k a1).bind fun t220 => (N1GCD.l0 k t217 t220))
set_option maxHeartbeats 8000000 in
set_option maxRecDepth 100000 in
theorem N1GCD.calls (k : Nat) (a0 : ByteArray) (a1 : ByteArray) (r : ByteArray) (w : World) (h : N1GCD.f k a0 a1 = some r) :
 Calls Tryd.prog 64 #[.string a0, .string a1] w fun e w' => e = .returned (.string r) ∧ Below w.heap.size w w' := by
 have HB := Aside0.mk (Below.refl w.heap.size w)
 have H : ((N1parse.f k a0).bind fun t217 => ((N1parse.f k a1).bind fun t220 => (N1GCD.l0 k t217 t220))) = some r := h
 clear h
 replace H := bS H
 obtain ⟨t217, A3, H⟩ := H
 replace H := bS H
 obtain ⟨t220, A4, H⟩ := H
 have H' := Aside0.mk H
 clear H
 go_enter Tryd.func64, Tryd.ntmps64
 go_wp2_with (first | (refine goesLA 10 Tryd.func66 #[.string a0] ?_; (with_reducible refine (N1parse.calls k a0 t217 _ A3.out).mono ?_); rintro e w5 ⟨v218, rfl, ho0, hb⟩; refine ⟨_, rfl, ?_⟩; have n0_ := Aside0.mk (Kd.V_lower (Kd.V_mono (ok' := fun k_ => True) ho0 (fun k_ hk_ => trivial)) (below_size zH)); have n1_ := sB hb; revert n0_ n1_; clear HB; intro HO219 HB; (try clear hb); (try clear hb2); (try clear hk); (try clear hi); (try clear ho0)) | (refine goesLA 12 Tryd.func66 #[.string a1] ?_; (with_reducible refine (N1parse.calls k a1 t220 _ A4.out).mono ?_); rintro e w6 ⟨v221, rfl, ho0, hb⟩; refine ⟨_, rfl, ?_⟩; have n0_ := Aside0.mk (Kd.V_below (by (with_reducible repeat (first | apply Kd.V_alloc | apply Kd.V_drewN | apply Kd.V_drew)); exact HO219.out) hb); have n1_ := Aside0.mk (Kd.V_lower (Kd.V_mono (ok' := fun k_ => True) ho0 (fun k_ hk_ => trivial)) (below_size zH)); have n2_ := sB hb; revert n0_ n1_ n2_; clear HO219 HB; intro HO219 HO222 HB; (try clear hb); (try clear hb2); (try clear hk); (try clear hi); (try clear ho0)))
 go_loopg [5, 6] k (fun kq v5 v6 w' => ∃ (x5_1 : List Int) (x6_1 : List Int), Aside0 (N1GCD.l0 kq x5_1 x6_1 = some r) ∧ Aside0 (kq ≤ k) ∧ Aside0 (Kd.V (Kd.int .u32) 86 w' w.heap.size (fun _ => True) v5 x5_1) ∧ Aside0 (Kd.V (Kd.int .u32) 86 w' w.heap.size (fun _ => True) v6 x6_1) ∧ Aside0 (Below w.heap.size w w'))
 case atStart => exact ⟨(t217), (t220), H', ⟨Nat.le_refl _⟩, ⟨by (with_reducible repeat (first | apply Kd.V_alloc | apply Kd.V_drewN | apply Kd.V_drew)); exact HO219.out⟩, ⟨by (with_reducible repeat (first | apply Kd.V_alloc | apply Kd.V_drewN | apply Kd.V_drew)); exact HO222.out⟩, ⟨zH⟩⟩
 case round =>
  clear H'
  obtain ⟨x5_1, x6_1, HA, HK1, HO_5, HO_6, HB⟩ := hrel
  cases gk with
  | zero => exact absurd HA.out (by simp [N1GCD.l0])
  | succ k1 =>
   have H := HA.out
   clear HA
   simp only [N1GCD.l0] at H
   by_cases c7 : (x6_1.length : Int) > 0
   ·rw [if_pos c7] at H
    have c7b0 := decide_eq_true c7
    have c7b1 : decide (0 < x6_1.length) = true := decide_eq_true (by omega)
    clear c7
    replace H := bS H
    obtain ⟨⟨t223, t226⟩, A8, H⟩ := H
    (try dsimp only at H)
    have H' := Aside0.mk H
    clear H
    obtain ⟨Ao9, co9, eo9⟩ := Kd.V_slice HO_6.out
    subst eo9
    obtain ⟨Ao10, co10, eo10⟩ := Kd.V_slice HO_5.out
    subst eo10
    go_wp2_with (first | (refine goesLA 19 Tryd.func85 #[.slice Ao10 x5_1.length co10, .slice Ao9 x6_1.length co9] ?_; (with_reducible refine (N1divide.calls k1 (fun k_ => True) _ _ x5_1 _ _ x6_1 t223 t226 _ ?side1 ?side2 ?side3 A8.out).mono ?_); (case side1 => exact HO_5.out); (case side2 => exact sC (Kd.V_reads' HO_6.out).2.2); (case side3 => exact (Kd.V_reads' HO_6.out).2.1); rintro e w11 ⟨v224, v227, rfl, ho0, ho1, hb⟩; refine ⟨_, rfl, ?_⟩; have n0_ := Aside0.mk (Kd.V_below zq15 hb); have n1_ := Aside0.mk (Kd.V_below zq12 hb); have n2_ := Aside0.mk (Kd.V_lower (Kd.V_mono (ok' := fun k_ => True) ho0 (fun k_ hk_ => trivial)) (below_size zH)); have n3_ := Aside0.mk (Kd.V_lower (Kd.V_mono (ok' := fun k_ => True) ho1 (fun k_ hk_ => trivial)) (below_size zH)); have n4_ := sB hb; revert n0_ n1_ n2_ n3_ n4_; clear HO_5 HO_6 HB; intro HO_5 HO_6 HO225 HO228 HB; (try clear hb); (try clear hb2); (try clear hk); (try clear hi); (try clear ho0); (try clear ho1)))
    go_roundg k1
    case measure => have := HK1.out; omega
    case rel => exact ⟨(x6_1), (t226), H', ⟨by have := HK1.out; omega⟩, ⟨by (with_reducible repeat (first | apply Kd.V_alloc | apply Kd.V_drewN | apply Kd.V_drew)); exact HO_6.out⟩, ⟨by (with_reducible repeat (first | apply Kd.V_alloc | apply Kd.V_drewN | apply Kd.V_drew)); exact HO228.out⟩, ⟨zH⟩⟩
   ·rw [if_neg c7] at H
    have c7b0 := decide_eq_false c7
    have c7b1 : decide (0 < x6_1.length) = false := decide_eq_false (by omega)
    clear c7
    replace H := bS H
    obtain ⟨t229, A12, H⟩ := H
    obtain rfl := Option.some.inj H
    obtain ⟨Ao13, co13, eo13⟩ := Kd.V_slice HO_6.out
    subst eo13
    obtain ⟨Ao14, co14, eo14⟩ := Kd.V_slice HO_5.out
    subst eo14
    go_wp2_with (first | (refine goesLA 25 Tryd.func67 #[.slice Ao14 x5_1.length co14] ?_; (with_reducible refine (N1limbs_text.calls k1 _ _ x5_1 t229 _ ?side1 ?side2 A12.out).mono ?_); (case side1 => exact sC (Kd.V_reads' HO_5.out).2.2); (case side2 => exact (Kd.V_reads' HO_5.out).2.1); rintro e w15 ⟨rfl, hb⟩; refine ⟨_, rfl, ?_⟩; have n0_ := Aside0.mk (Kd.V_below zq15 hb); have n1_ := Aside0.mk (Kd.V_below zq12 hb); have n2_ := sB hb; revert n0_ n1_ n2_; clear HO_5 HO_6 HB; intro HO_5 HO_6 HB; (try clear hb); (try clear hb2); (try clear hk); (try clear hi)))
    go_ret
    exact ⟨zE, zH⟩
end Go.Proofs.YtggfilmdfpmbmaaDoor.QN
end
section
namespace Go.Proofs.YtggfilmdfpmbmaaDoor.QN
open Go.RowKit Go.Proofs.YtggfilmdfpmbmaaDoorW.PrintWords Go.Proofs.YtggfilmdfpmbmaaDoorW.PrintLast Go.Proofs.YtggfilmdfpmbmaaDoorW.PrintMore
attribute [local go_sem] max2_int min2_int max_two min_two max_three min_three max_four min_four   -- for this text's walks alone
set_option linter.unusedVariables false
set_option linter.unusedSimpArgs false
def N1Divide.f (k : Nat) (a0 : ByteArray) (a1 : ByteArray) : Option (ByteArray × ByteArray × Bool) := (N1parse.f k a1).bind fun t230 => (if (t230.length : Int) = 0 then (some ((⟨#[]⟩ : ByteArray), (⟨#[]⟩ : ByteArray), false)) else ((N1parse.f k a0).bind fun t233 => ((N1divide.f k t233 t230).bind fun bt236 => ((N1limbs_text.f k bt236.1).bind fun t242 => ((N1limbs_text.f k bt236.2).bind fun t243 => (some (t242, t243, true)))))))
set_option maxHeartbeats 8000000 in
set_option maxRecDepth 100000 in
theorem N1Divide.calls (k : Nat) (a0 : ByteArray) (a1 : ByteArray) (r1 : ByteArray) (r2 : ByteArray) (r3 : Bool) (w : World) (h : N1Divide.f k a0 a1 = some (r1, r2, r3)) :
 Calls Tryd.prog 65 #[.string a0, .string a1] w fun e w' => e = .returned (.tuple #[.string r1, .string r2, .bool r3]) ∧ Below w.heap.size w w' := by
 have HB := Aside0.mk (Below.refl w.heap.size w)
 have H : ((N1parse.f k a1).bind fun t230 => (if (t230.length : Int) = 0 then (some ((⟨#[]⟩ : ByteArray), (⟨#[]⟩ : ByteArray), false)) else ((N1parse.f k a0).bind fun t233 => ((N1divide.f k t233 t230).bind fun bt236 => ((N1limbs_text.f k bt236.1).bind fun t242 => ((N1limbs_text.f k bt236.2).bind fun t243 => (some (t242, t243, true)))))))) = some (r1, r2, r3) := h
 clear h
 replace H := bS H
 obtain ⟨t230, A3, H⟩ := H
 by_cases c4 : (t230.length : Int) = 0
 ·rw [if_pos c4] at H
  have c4b0 := beq_iff_eq.mpr c4
  have c4b1 : ((t230.length : Int) != 0) = false := bne_eq_false_iff_eq.mpr c4
  clear c4
  simp only [Option.some.injEq, Prod.mk.injEq] at H
  obtain ⟨rfl, rfl, rfl⟩ := H
  go_enter Tryd.func65, Tryd.ntmps65
  go_wp2_with (first | (refine goesLA 11 Tryd.func66 #[.string a1] ?_; (with_reducible refine (N1parse.calls k a1 t230 _ A3.out).mono ?_); rintro e w5 ⟨v231, rfl, ho0, hb⟩; refine ⟨_, rfl, ?_⟩; have n0_ := Aside0.mk (Kd.V_lower (Kd.V_mono (ok' := fun k_ => True) ho0 (fun k_ hk_ => trivial)) (below_size zH)); have n1_ := sB hb; revert n0_ n1_; clear HB; intro HO232 HB; (try clear hb); (try clear hb2); (try clear hk); (try clear hi); (try clear ho0); obtain ⟨Ao6, co6, eo6⟩ := Kd.V_slice HO232.out; subst eo6))
  go_ret3
  exact ⟨zE, zH⟩
 ·rw [if_neg c4] at H
  have c4b0 := beq_eq_false_iff_ne.mpr c4
  have c4b1 := bne_iff_ne.mpr c4
  have c4b2 : ¬ (t230 = []) := fun h_ => c4 (by rw [h_]; rfl)
  replace H := bS H
  obtain ⟨t233, A7, H⟩ := H
  replace H := bS H
  obtain ⟨⟨t236, t239⟩, A8, H⟩ := H
  (try dsimp only at H)
  replace H := bS H
  obtain ⟨t242, A9, H⟩ := H
  replace H := bS H
  obtain ⟨t243, A10, H⟩ := H
  simp only [Option.some.injEq, Prod.mk.injEq] at H
  obtain ⟨rfl, rfl, rfl⟩ := H
  go_enter Tryd.func65, Tryd.ntmps65
  go_wp2_with (first | (refine goesLA 11 Tryd.func66 #[.string a1] ?_; (with_reducible refine (N1parse.calls k a1 t230 _ A3.out).mono ?_); rintro e w11 ⟨v231, rfl, ho0, hb⟩; refine ⟨_, rfl, ?_⟩; have n0_ := Aside0.mk (Kd.V_lower (Kd.V_mono (ok' := fun k_ => True) ho0 (fun k_ hk_ => trivial)) (below_size zH)); have n1_ := sB hb; revert n0_ n1_; clear HB; intro HO232 HB; (try clear hb); (try clear hb2); (try clear hk); (try clear hi); (try clear ho0); obtain ⟨Ao12, co12, eo12⟩ := Kd.V_slice HO232.out; subst eo12) | (refine goesLA 17 Tryd.func66 #[.string a0] ?_; (with_reducible refine (N1parse.calls k a0 t233 _ A7.out).mono ?_); rintro e w13 ⟨v234, rfl, ho0, hb⟩; refine ⟨_, rfl, ?_⟩; have n0_ := Aside0.mk (Kd.V_below zq25 hb); have n1_ := Aside0.mk (Kd.V_lower (Kd.V_mono (ok' := fun k_ => True) ho0 (fun k_ hk_ => trivial)) (below_size zH)); have n2_ := sB hb; revert n0_ n1_ n2_; clear HO232 HB; intro HO232 HO235 HB; (try clear hb); (try clear hb2); (try clear hk); (try clear hi); (try clear ho0); obtain ⟨Ao14, co14, eo14⟩ := Kd.V_slice HO235.out; subst eo14) | (refine goesLA 19 Tryd.func85 #[.slice Ao14 t233.length co14, .slice Ao12 t230.length co12] ?_; (with_reducible refine (N1divide.calls k (fun k_ => True) _ _ t233 _ _ t230 t236 t239 _ ?side1 ?side2 ?side3 A8.out).mono ?_); (case side1 => exact HO235.out); (case side2 => exact sC (Kd.V_reads' HO232.out).2.2); (case side3 => exact (Kd.V_reads' HO232.out).2.1); rintro e w15 ⟨v237, v240, rfl, ho0, ho1, hb⟩; refine ⟨_, rfl, ?_⟩; have n0_ := Aside0.mk (Kd.V_below zq25 hb); have n1_ := Aside0.mk (Kd.V_below zq41 hb); have n2_ := Aside0.mk (Kd.V_lower (Kd.V_mono (ok' := fun k_ => True) ho0 (fun k_ hk_ => trivial)) (below_size zH)); have n3_ := Aside0.mk (Kd.V_lower (Kd.V_mono (ok' := fun k_ => True) ho1 (fun k_ hk_ => trivial)) (below_size zH)); have n4_ := sB hb; revert n0_ n1_ n2_ n3_ n4_; clear HO232 HO235 HB; intro HO232 HO235 HO238 HO241 HB; (try clear hb); (try clear hb2); (try clear hk); (try clear hi); (try clear ho0); (try clear ho1); obtain ⟨Ao16, co16, eo16⟩ := Kd.V_slice HO238.out; subst eo16) | (refine goesLA 23 Tryd.func67 #[.slice Ao16 t236.length co16] ?_; (with_reducible refine (N1limbs_text.calls k _ _ t236 t242 _ ?side1 ?side2 A9.out).mono ?_); (case side1 => exact sC (Kd.V_reads' HO238.out).2.2); (case side2 => exact (Kd.V_reads' HO238.out).2.1); rintro e w17 ⟨rfl, hb⟩; refine ⟨_, rfl, ?_⟩; have n0_ := Aside0.mk (Kd.V_below zq25 hb); have n1_ := Aside0.mk (Kd.V_below zq41 hb); have n2_ := Aside0.mk (Kd.V_below (by (with_reducible repeat (first | apply Kd.V_alloc | apply Kd.V_drewN | apply Kd.V_drew)); exact HO238.out) hb); have n3_ := Aside0.mk (Kd.V_below (by (with_reducible repeat (first | apply Kd.V_alloc | apply Kd.V_drewN | apply Kd.V_drew)); exact HO241.out) hb); have n4_ := sB hb; revert n0_ n1_ n2_ n3_ n4_; clear HO232 HO235 HO238 HO241 HB; intro HO232 HO235 HO238 HO241 HB; (try clear hb); (try clear hb2); (try clear hk); (try clear hi); obtain ⟨Ao18, co18, eo18⟩ := Kd.V_slice HO241.out; subst eo18) | (refine goesLA 25 Tryd.func67 #[.slice Ao18 t239.length co18] ?_; (with_reducible refine (N1limbs_text.calls k _ _ t239 t243 _ ?side1 ?side2 A10.out).mono ?_); (case side1 => exact sC (Kd.V_reads' HO241.out).2.2); (case side2 => exact (Kd.V_reads' HO241.out).2.1); rintro e w19 ⟨rfl, hb⟩; refine ⟨_, rfl, ?_⟩; have n0_ := Aside0.mk (Kd.V_below zq25 hb); have n1_ := Aside0.mk (Kd.V_below zq41 hb); have n2_ := Aside0.mk (Kd.V_below (by (with_reducible repeat (first | apply Kd.V_alloc | apply Kd.V_drewN | apply Kd.V_drew)); exact HO238.out) hb); have n3_ := Aside0.mk (Kd.V_below (by (with_reducible repeat (first | apply Kd.V_alloc | apply Kd.V_drewN | apply Kd.V_drew)); exact HO241.out) hb); have n4_ := sB hb; revert n0_ n1_ n2_ n3_ n4_; clear HO232 HO235 HO238 HO241 HB; intro HO232 HO235 HO238 HO241 HB; (try clear hb); (try clear hb2); (try clear hk); (try clear hi)))
  go_ret3
  exact ⟨zE, zH⟩
mutual
def N1Add.j0 : Nat → List Int → List Int → Option (ByteArray)
 | 0, _, _ => none
 | k + 1, x5, x6 => if 0 ≤ (wrap64 ((x5.length : Int) + 1)) then (if (wrap64 ((x5.length : Int) + 1) : Int).toNat ≤ 70368744177664 then (N1Add.l0 k x5 x6 (List.replicate (wrap64 ((x5.length : Int) + 1) : Int).toNat 0) 0 (x5.length : Int) 0) else (none)) else (none)
def N1Add.l0 : Nat → List Int → List Int → List Int → Int → Int → Int → Option (ByteArray)
 | 0, _, _, _, _, _, _ => none
 | k + 1, x5, x6, x7, x8, x27, x28 => if x28 < x27 then (if x28 < (x6.length : Int) then (if 0 ≤ x28 then (if x28 < (x5.length : Int) then ((bits_Add32.f (rd x5 x28) (rd x6 x28) x8).bind fun bt255 => (if x28 < (x7.length : Int) then (N1Add.l0 k x5 x6 (x7.set (x28 : Int).toNat bt255.1) bt255.2 x27 (wrap64 (x28 + 1))) else (none))) else (none)) else (none)) else (if 0 ≤ x28 then (if x28 < (x5.length : Int) then ((bits_Add32.f (rd x5 x28) 0 x8).bind fun bt259 => (if x28 < (x7.length : Int) then (N1Add.l0 k x5 x6 (x7.set (x28 : Int).toNat bt259.1) bt259.2 x27 (wrap64 (x28 + 1))) else (none))) else (none)) else (none))) else (if 0 ≤ (x5.length : Int) then (if (x5.length : Int) < (x7.length : Int) then ((N1limbs_text.f k (x7.set ((x5.length : Int) : Int).toNat x8)).bind fun t263 => (some t263)) else (none)) else (none))
end
def N1Add.f (k : Nat) (a0 : ByteArray) (a1 : ByteArray) : Option (ByteArray) := (N1parse.f k a0).bind fun t244 => ((N1parse.f k a1).bind fun t247 => (if (t244.length : Int) < (t247.length : Int) then (N1Add.j0 k t247 t244) else (N1Add.j0 k t244 t247)))
set_option maxHeartbeats 8000000 in
set_option maxRecDepth 100000 in
theorem N1Add.calls (k : Nat) (a0 : ByteArray) (a1 : ByteArray) (r : ByteArray) (w : World) (h : N1Add.f k a0 a1 = some r) :
 Calls Tryd.prog 68 #[.string a0, .string a1] w fun e w' => e = .returned (.string r) ∧ Below w.heap.size w w' := by
 have HB := Aside0.mk (Below.refl w.heap.size w)
 have H : ((N1parse.f k a0).bind fun t244 => ((N1parse.f k a1).bind fun t247 => (if (t244.length : Int) < (t247.length : Int) then (N1Add.j0 k t247 t244) else (N1Add.j0 k t244 t247)))) = some r := h
 clear h
 replace H := bS H
 obtain ⟨t244, A3, H⟩ := H
 replace H := bS H
 obtain ⟨t247, A4, H⟩ := H
 have HC5 := Aside0.mk H
 clear H
 go_enter Tryd.func68, Tryd.ntmps68
 go_upto_if 19 with (first | (refine goesLA 12 Tryd.func66 #[.string a0] ?_; (with_reducible refine (N1parse.calls k a0 t244 _ A3.out).mono ?_); rintro e w6 ⟨v245, rfl, ho0, hb⟩; refine ⟨_, rfl, ?_⟩; have n0_ := Aside0.mk (Kd.V_lower (Kd.V_mono (ok' := fun k_ => True) ho0 (fun k_ hk_ => trivial)) (below_size zH)); have n1_ := sB hb; revert n0_ n1_; clear HB; intro HO246 HB; (try clear hb); (try clear hb2); (try clear hk); (try clear hi); (try clear ho0)) | (refine goesLA 14 Tryd.func66 #[.string a1] ?_; (with_reducible refine (N1parse.calls k a1 t247 _ A4.out).mono ?_); rintro e w7 ⟨v248, rfl, ho0, hb⟩; refine ⟨_, rfl, ?_⟩; have n0_ := Aside0.mk (Kd.V_below (by (with_reducible repeat (first | apply Kd.V_alloc | apply Kd.V_drewN | apply Kd.V_drew)); exact HO246.out) hb); have n1_ := Aside0.mk (Kd.V_lower (Kd.V_mono (ok' := fun k_ => True) ho0 (fun k_ hk_ => trivial)) (below_size zH)); have n2_ := sB hb; revert n0_ n1_ n2_; clear HO246 HB; intro HO246 HO249 HB; (try clear hb); (try clear hb2); (try clear hk); (try clear hi); (try clear ho0); obtain ⟨Ao8, co8, eo8⟩ := Kd.V_slice HO246.out; subst eo8; obtain ⟨Ao9, co9, eo9⟩ := Kd.V_slice HO249.out; subst eo9))
 (try simp only [Act.put, List.setIfInBounds_toArray, List.set_cons_zero, List.set_cons_succ])
 go_cut [5, 6] (fun v5 v6 wc => ∃ (kq : Nat) (x5_4 : List Int) (x6_4 : List Int), Aside0 (N1Add.j0 kq x5_4 x6_4 = some r) ∧ Aside0 (kq ≤ k) ∧ Aside0 (Kd.V (Kd.int .u32) 86 wc w.heap.size (fun _ => True) v5 x5_4) ∧ Aside0 (Kd.V (Kd.int .u32) 86 wc w.heap.size (fun _ => True) v6 x6_4) ∧ Aside0 (Below w.heap.size w wc))
 case first =>
  have H := HC5.out
  clear HC5
  by_cases c10 : (t244.length : Int) < (t247.length : Int)
  ·rw [if_pos c10] at H
   have c10b0 := decide_eq_true c10
   have c10b1 : decide (t244.length < t247.length) = true := decide_eq_true (Int.ofNat_lt.mp c10)
   clear c10
   (first | rw [c10b0] | (simp only [i64_w, i32_w]; rw [c10b0]) | rw [c10b1] | skip)
   have H' := Aside0.mk H
   clear H
   go_wp2
   go_meet
   case rel => exact ⟨_, (t247), (t244), H', ⟨by first | omega | exact Nat.le_refl _⟩, ⟨by (with_reducible repeat (first | apply Kd.V_alloc | apply Kd.V_drewN | apply Kd.V_drew)); exact HO249.out⟩, ⟨by (with_reducible repeat (first | apply Kd.V_alloc | apply Kd.V_drewN | apply Kd.V_drew)); exact HO246.out⟩, ⟨zH⟩⟩
  ·rw [if_neg c10] at H
   have c10b0 := decide_eq_false c10
   have c10b1 : decide (t244.length < t247.length) = false := decide_eq_false (fun h => c10 (Int.ofNat_lt.mpr h))
   clear c10
   (first | rw [c10b0] | (simp only [i64_w, i32_w]; rw [c10b0]) | rw [c10b1] | skip)
   have H' := Aside0.mk H
   clear H
   go_wp2
   go_meet
   case rel => exact ⟨_, (t244), (t247), H', ⟨by first | omega | exact Nat.le_refl _⟩, ⟨by (with_reducible repeat (first | apply Kd.V_alloc | apply Kd.V_drewN | apply Kd.V_drew)); exact HO246.out⟩, ⟨by (with_reducible repeat (first | apply Kd.V_alloc | apply Kd.V_drewN | apply Kd.V_drew)); exact HO249.out⟩, ⟨zH⟩⟩
 case rest =>
  clear HC5
  obtain ⟨kq, x5_4, x6_4, HA, HJ4, HO_5, HO_6, HB⟩ := hcut
  cases kq with
  | zero => exact absurd HA.out (by simp [N1Add.j0])
  | succ kj4 =>
   have H := HA.out
   clear HA
   simp only [N1Add.j0] at H
   obtain ⟨ji11, hji11, hji11w⟩ := jI ((x5_4.length : Int) + 1)
   first | rw [hji11] at H | simp only [hji11] at H
   replace H := iteE H
   obtain ⟨c12b0, c12b1, H⟩ := H
   replace H := iteE H
   obtain ⟨c13b0, c13b1, H⟩ := H
   obtain ⟨y250, hy250⟩ : ∃ y_ : List Int, y_ = (List.replicate (ji11 : Int).toNat 0) := ⟨_, rfl⟩
   (try rw [Option.bind_some] at H); (try rw [← hy250] at H)
   have Ny250 := Aside0.mk hy250
   clear hy250
   have H' := Aside0.mk H
   clear H
   obtain ⟨Ao14, co14, eo14⟩ := Kd.V_slice HO_5.out
   subst eo14
   go_wp2_with (first | ((with_reducible refine gate_dst (N := 25) rfl ?_); refine Kd.R_make (Kd.int .u32) _ 86 rfl (N := 25) rfl 84 _ _ rfl ji11 rfl rfl Tryd.underlying84 (.int .u32 0) 4 info86 rfl (by decide) (by omega) 0 (ok := fun _ => True) (okp := fun _ => True) rfl (fun _ hk => hk) trivial (of_decide_eq_true zq0) (Nat.le_trans (Nat.mul_le_mul_right _ (of_decide_eq_true zq0 : ji11.toNat ≤ 70368744177664)) (by omega)) (Below.refl _ _) (Nat.le_refl _) ?_; intro v251 w15 ho16 hb hg_ hnew_; clear hg_ hnew_; (first | rw [← Ny250.out] at ho16 | (simp only [Int.reduceToNat] at ho16; rw [← Ny250.out] at ho16)); have n0_ := Aside0.mk (Kd.V_elder' zq15 (Kd.R_base ho16) hb); have n1_ := Aside0.mk (Kd.V_elder' zq12 (Kd.R_base ho16) hb); have n2_ := Aside0.mk (Kd.R_lower ho16 (below_size zH)); have n3_ := sB hb; revert n0_ n1_ n2_ n3_; clear HO_5 HO_6 HB; intro HO_5 HO_6 HO252 HB; clear hb ho16))
   go_loopg [8, 28] kj4 (fun kq v8 v28 w' => ∃ (x7_2 : List Int) (x8_2 : Int) (x28_2 : Int), v8 = .int .u32 x8_2 ∧ v28 = .int .i64 x28_2 ∧ Aside0 (N1Add.l0 kq x5_4 x6_4 x7_2 x8_2 (x5_4.length : Int) x28_2 = some r) ∧ Aside0 (kq ≤ kj4) ∧ Aside0 (Kd.V (Kd.int .u32) 86 w' w.heap.size (fun k_ => some k_ ≠ (v251 : Value).ownBlock) (.slice Ao14 x5_4.length co14) x5_4) ∧ Aside0 (Kd.V (Kd.int .u32) 86 w' w.heap.size (fun k_ => some k_ ≠ (v251 : Value).ownBlock) u6 x6_4) ∧ Aside0 (Kd.R (Kd.int .u32) 86 w' w.heap.size (fun _ => True) v251 x7_2) ∧ Aside0 (Below w.heap.size w w'))
   case atStart => exact ⟨(y250), (0), (0), zq1, zq1, H', ⟨Nat.le_refl _⟩, ⟨by (with_reducible repeat (first | apply Kd.V_alloc | apply Kd.V_drewN | apply Kd.V_drew)); exact Kd.V_mono HO_5.out (fun _ hk => hk.2)⟩, ⟨by (with_reducible repeat (first | apply Kd.V_alloc | apply Kd.V_drewN | apply Kd.V_drew)); exact Kd.V_mono HO_6.out (fun _ hk => hk.2)⟩, ⟨by (with_reducible repeat (first | apply Kd.R_alloc | apply Kd.R_drewN | apply Kd.R_drew)); exact HO252.out⟩, ⟨zH⟩⟩
   case round =>
    clear H'
    obtain ⟨x7_2, x8_2, x28_2, rfl, rfl, HA, HK2, HO_5, HO_6, HO_7, HB⟩ := hrel
    cases gk with
    | zero => exact absurd HA.out (by simp [N1Add.l0])
    | succ k2 =>
     have H := HA.out
     clear HA
     simp only [N1Add.l0] at H
     by_cases c17 : x28_2 < (x5_4.length : Int)
     ·rw [if_pos c17] at H
      have c17b0 := decide_eq_true c17
      clear c17
      by_cases c18 : x28_2 < (x6_4.length : Int)
      ·rw [if_pos c18] at H
       have c18b0 := decide_eq_true c18
       clear c18
       replace H := iteD H
       obtain ⟨c19b0, H⟩ := H
       replace H := iteD H
       obtain ⟨c20b0, H⟩ := H
       replace H := bS H
       obtain ⟨⟨t255, t256⟩, A21, H⟩ := H
       (try dsimp only at H)
       replace H := iteD H
       obtain ⟨c22b0, H⟩ := H
       obtain ⟨y257, hy257⟩ : ∃ y_ : List Int, y_ = (x7_2.set (x28_2 : Int).toNat t255) := ⟨_, rfl⟩
       (try rw [Option.bind_some] at H); (try rw [← hy257] at H)
       have Ny257 := Aside0.mk hy257
       clear hy257
       have H' := Aside0.mk H
       clear H
       obtain ⟨Ao24, co24, eo24⟩ := Kd.V_slice HO_6.out
       subst eo24
       obtain ⟨ad253, e253, hx253_0, p253, q253⟩ := atI (Kd.V_reads' HO_6.out).2.2 x28_2
       cases e253
       obtain ⟨ad254, e254, hx254_0, p254, q254⟩ := atI (Kd.V_reads' HO_5.out).2.2 x28_2
       cases e254
       go_wp2_with (first | (refine goesLA 48 Tryd.func87 #[.int .u32 (rd x5_4 x28_2), .int .u32 (rd x6_4 x28_2), .int .u32 x8_2] ?_; (with_reducible refine (bits_Add32.calls (rd x5_4 x28_2) (rd x6_4 x28_2) x8_2 t255 t256 _ A21.out).mono ?_); rintro e w' ⟨rfl, ⟨nd, rfl⟩⟩; refine ⟨_, rfl, ?_⟩; (try (rw [drewN_self wr]; generalize hq_ : World.drewN wr _ = wr; have n0_ : Aside0 (Kd.V (Kd.int .u32) 86 wr w.heap.size (fun k_ => some k_ ≠ (v251 : Value).ownBlock) (.slice (some ad254) x5_4.length co14) x5_4) := ⟨by rw [← hq_]; exact zq15⟩; have n1_ : Aside0 (Kd.V (Kd.int .u32) 86 wr w.heap.size (fun k_ => some k_ ≠ (v251 : Value).ownBlock) (.slice (some ad253) x6_4.length co24) x6_4) := ⟨by rw [← hq_]; exact zq12⟩; have n2_ : Aside0 (Kd.R (Kd.int .u32) 86 wr w.heap.size (fun _ => True) v251 x7_2) := ⟨by rw [← hq_]; exact zq26⟩; have n3_ : Aside0 (Below w.heap.size w wr) := ⟨by rw [← hq_]; exact zH⟩; clear HO_5 HO_6 HO_7 HB hq_; have HO_5 := n0_; have HO_6 := n1_; have HO_7 := n2_; have HB := n3_; clear n0_ n1_ n2_ n3_)); have p23 : 0 ≤ (x28_2 : Int) := of_decide_eq_true zq0; have q23 : (x28_2 : Int) < ((x7_2.length : Int) : Int) := of_decide_eq_true zq0; obtain ⟨go23, co23, eo23, gb23, gl23, cl23, HG23⟩ := Kd.R_form HO_7.out (by omega); (first | cases eo23 | (injection eo23 with ea_ en_ ec_; (first | subst ea_ | (injection ea_ with ea_; subst ea_)); subst ec_; clear en_)); have GB23 := Aside0.mk gb23; have GG23 := Aside0.mk HG23; clear gb23 gl23 HG23; obtain ⟨hx23_0, hf23_0⟩ := Kd.R_celln 0 HO_7.out (x28_2 : Int) p23 q23; replace p23 := eq_true p23; replace q23 := eq_true q23; obtain ⟨hy25_, hz25_⟩ := Kd.R_celln 0 HO_7.out (x28_2 : Int) (of_decide_eq_true zq0) (of_decide_eq_true zq0); have HP25 := Kd.R_putg HO_7.out (x28_2 : Int) t255) | ((with_reducible refine gate_store (t := 86) (p := 51) rfl ?_); refine store_event (t := 86) (p := 51) (v := ?vo_w26) (w1 := (wr.setCell ⟨go23, (x28_2 : Int).toNat, none⟩ (.int .u32 t255))) ?hg ?ho ?hn ?hr ?_; (case ho => rfl); (case hg => rfl); (case hn => rfl); (case hr => first | (go_simp; done) | (go_simp; rfl)); intro w26 hw; have hg : wr.grownBy w26 (some go23) := (by rw [hw]; exact HP25.2); have hp_ : Kd.R (Kd.int .u32) 86 w26 w.heap.size (fun _ => True) (.slice (some ⟨go23, 0, none⟩) x7_2.length co23) y257 := (by rw [hw, Ny257.out]; exact HP25.1); clear HP25; have n0_ := Aside0.mk (Kd.V_afterv (v := (.slice (some ⟨go23, 0, none⟩) x7_2.length co23)) (v1 := (.slice (some ⟨go23, 0, none⟩) x7_2.length co23)) (ok := (fun _ => True)) zq42 hg (.inl rfl)); have n1_ := Aside0.mk (Kd.V_afterv (v := (.slice (some ⟨go23, 0, none⟩) x7_2.length co23)) (v1 := (.slice (some ⟨go23, 0, none⟩) x7_2.length co23)) (ok := (fun _ => True)) zq19 hg (.inl rfl)); have n2_ := Aside0.mk (hp_); have n3_ := Aside0.mk ((by rw [hw]; exact below_set (HB.out) GB23.out : Below w.heap.size w w26)); revert n0_ n1_ n2_ n3_; clear HO_5 HO_6 HO_7 HB; intro HO_5 HO_6 HO_7 HB; clear hg hw hp_))
       go_roundg k2
       case measure => have := HJ4.out; have := HK2.out; omega
       case rel => exact ⟨(y257), (t256), (wrap64 (x28_2 + 1)), zq1, zq1, H', ⟨by have := HJ4.out; have := HK2.out; omega⟩, ⟨by (with_reducible repeat (first | apply Kd.V_alloc | apply Kd.V_drewN | apply Kd.V_drew)); exact Kd.V_mono HO_5.out (fun _ hk => hk.2)⟩, ⟨by (with_reducible repeat (first | apply Kd.V_alloc | apply Kd.V_drewN | apply Kd.V_drew)); exact Kd.V_mono HO_6.out (fun _ hk => hk.2)⟩, ⟨by (with_reducible repeat (first | apply Kd.R_alloc | apply Kd.R_drewN | apply Kd.R_drew)); exact HO_7.out⟩, ⟨zH⟩⟩
      ·rw [if_neg c18] at H
       have c18b0 := decide_eq_false c18
       clear c18
       replace H := iteD H
       obtain ⟨c27b0, H⟩ := H
       replace H := iteD H
       obtain ⟨c28b0, H⟩ := H
       replace H := bS H
       obtain ⟨⟨t259, t260⟩, A29, H⟩ := H
       (try dsimp only at H)
       replace H := iteD H
       obtain ⟨c30b0, H⟩ := H
       obtain ⟨y261, hy261⟩ : ∃ y_ : List Int, y_ = (x7_2.set (x28_2 : Int).toNat t259) := ⟨_, rfl⟩
       (try rw [Option.bind_some] at H); (try rw [← hy261] at H)
       have Ny261 := Aside0.mk hy261
       clear hy261
       have H' := Aside0.mk H
       clear H
       obtain ⟨Ao32, co32, eo32⟩ := Kd.V_slice HO_6.out
       subst eo32
       obtain ⟨ad258, e258, hx258_0, p258, q258⟩ := atI (Kd.V_reads' HO_5.out).2.2 x28_2
       cases e258
       go_wp2_with (first | (refine goesLA 48 Tryd.func87 #[.int .u32 (rd x5_4 x28_2), .int .u32 0, .int .u32 x8_2] ?_; (with_reducible refine (bits_Add32.calls (rd x5_4 x28_2) 0 x8_2 t259 t260 _ A29.out).mono ?_); rintro e w' ⟨rfl, ⟨nd, rfl⟩⟩; refine ⟨_, rfl, ?_⟩; (try (rw [drewN_self wr]; generalize hq_ : World.drewN wr _ = wr; have n0_ : Aside0 (Kd.V (Kd.int .u32) 86 wr w.heap.size (fun k_ => some k_ ≠ (v251 : Value).ownBlock) (.slice (some ad258) x5_4.length co14) x5_4) := ⟨by rw [← hq_]; exact zq15⟩; have n1_ : Aside0 (Kd.V (Kd.int .u32) 86 wr w.heap.size (fun k_ => some k_ ≠ (v251 : Value).ownBlock) (.slice Ao32 x6_4.length co32) x6_4) := ⟨by rw [← hq_]; exact zq12⟩; have n2_ : Aside0 (Kd.R (Kd.int .u32) 86 wr w.heap.size (fun _ => True) v251 x7_2) := ⟨by rw [← hq_]; exact zq26⟩; have n3_ : Aside0 (Below w.heap.size w wr) := ⟨by rw [← hq_]; exact zH⟩; clear HO_5 HO_6 HO_7 HB hq_; have HO_5 := n0_; have HO_6 := n1_; have HO_7 := n2_; have HB := n3_; clear n0_ n1_ n2_ n3_)); have p31 : 0 ≤ (x28_2 : Int) := of_decide_eq_true zq0; have q31 : (x28_2 : Int) < ((x7_2.length : Int) : Int) := of_decide_eq_true zq0; obtain ⟨go31, co31, eo31, gb31, gl31, cl31, HG31⟩ := Kd.R_form HO_7.out (by omega); (first | cases eo31 | (injection eo31 with ea_ en_ ec_; (first | subst ea_ | (injection ea_ with ea_; subst ea_)); subst ec_; clear en_)); have GB31 := Aside0.mk gb31; have GG31 := Aside0.mk HG31; clear gb31 gl31 HG31; obtain ⟨hx31_0, hf31_0⟩ := Kd.R_celln 0 HO_7.out (x28_2 : Int) p31 q31; replace p31 := eq_true p31; replace q31 := eq_true q31; obtain ⟨hy33_, hz33_⟩ := Kd.R_celln 0 HO_7.out (x28_2 : Int) (of_decide_eq_true zq0) (of_decide_eq_true zq0); have HP33 := Kd.R_putg HO_7.out (x28_2 : Int) t259) | ((with_reducible refine gate_store (t := 86) (p := 51) rfl ?_); refine store_event (t := 86) (p := 51) (v := ?vo_w34) (w1 := (wr.setCell ⟨go31, (x28_2 : Int).toNat, none⟩ (.int .u32 t259))) ?hg ?ho ?hn ?hr ?_; (case ho => rfl); (case hg => rfl); (case hn => rfl); (case hr => first | (go_simp; done) | (go_simp; rfl)); intro w34 hw; have hg : wr.grownBy w34 (some go31) := (by rw [hw]; exact HP33.2); have hp_ : Kd.R (Kd.int .u32) 86 w34 w.heap.size (fun _ => True) (.slice (some ⟨go31, 0, none⟩) x7_2.length co31) y261 := (by rw [hw, Ny261.out]; exact HP33.1); clear HP33; have n0_ := Aside0.mk (Kd.V_afterv (v := (.slice (some ⟨go31, 0, none⟩) x7_2.length co31)) (v1 := (.slice (some ⟨go31, 0, none⟩) x7_2.length co31)) (ok := (fun _ => True)) zq42 hg (.inl rfl)); have n1_ := Aside0.mk (Kd.V_afterv (v := (.slice (some ⟨go31, 0, none⟩) x7_2.length co31)) (v1 := (.slice (some ⟨go31, 0, none⟩) x7_2.length co31)) (ok := (fun _ => True)) zq19 hg (.inl rfl)); have n2_ := Aside0.mk (hp_); have n3_ := Aside0.mk ((by rw [hw]; exact below_set (HB.out) GB31.out : Below w.heap.size w w34)); revert n0_ n1_ n2_ n3_; clear HO_5 HO_6 HO_7 HB; intro HO_5 HO_6 HO_7 HB; clear hg hw hp_))
       go_roundg k2
       case measure => have := HJ4.out; have := HK2.out; omega
       case rel => exact ⟨(y261), (t260), (wrap64 (x28_2 + 1)), zq1, zq1, H', ⟨by have := HJ4.out; have := HK2.out; omega⟩, ⟨by (with_reducible repeat (first | apply Kd.V_alloc | apply Kd.V_drewN | apply Kd.V_drew)); exact Kd.V_mono HO_5.out (fun _ hk => hk.2)⟩, ⟨by (with_reducible repeat (first | apply Kd.V_alloc | apply Kd.V_drewN | apply Kd.V_drew)); exact Kd.V_mono HO_6.out (fun _ hk => hk.2)⟩, ⟨by (with_reducible repeat (first | apply Kd.R_alloc | apply Kd.R_drewN | apply Kd.R_drew)); exact HO_7.out⟩, ⟨zH⟩⟩
     ·rw [if_neg c17] at H
      have c17b0 := decide_eq_false c17
      clear c17
      replace H := of_ite H
      obtain ⟨c35, H⟩ := H
      have c35b0 := decide_eq_true c35
      have c35b1 : decide (0 ≤ x5_4.length) = true := decide_eq_true (by omega)
      clear c35
      replace H := of_ite H
      obtain ⟨c36, H⟩ := H
      have c36b0 := decide_eq_true c36
      have c36b1 : decide (x5_4.length < x7_2.length) = true := decide_eq_true (Int.ofNat_lt.mp c36)
      clear c36
      obtain ⟨y262, hy262⟩ : ∃ y_ : List Int, y_ = (x7_2.set ((x5_4.length : Int) : Int).toNat x8_2) := ⟨_, rfl⟩
      (try rw [Option.bind_some] at H); (try rw [← hy262] at H)
      have Ny262 := Aside0.mk hy262
      clear hy262
      replace H := bS H
      obtain ⟨t263, A38, H⟩ := H
      obtain rfl := Option.some.inj H
      have p37 : 0 ≤ ((x5_4.length : Int) : Int) := of_decide_eq_true zq0
      have q37 : ((x5_4.length : Int) : Int) < ((x7_2.length : Int) : Int) := of_decide_eq_true zq0
      obtain ⟨go37, co37, eo37, gb37, gl37, cl37, HG37⟩ := Kd.R_form HO_7.out (by omega)
      (first | cases eo37 | (injection eo37 with ea_ en_ ec_; (first | subst ea_ | (injection ea_ with ea_; subst ea_)); subst ec_; clear en_))
      have GB37 := Aside0.mk gb37
      have GG37 := Aside0.mk HG37
      clear gb37 gl37 HG37
      obtain ⟨hx37_0, hf37_0⟩ := Kd.R_celln 0 HO_7.out ((x5_4.length : Int) : Int) p37 q37
      (try simp only [Go.IntWalk.toNatUp] at hx37_0 hf37_0)
      replace p37 := eq_true p37
      replace q37 := eq_true q37
      have HP39 := Kd.R_putg HO_7.out ((x5_4.length : Int) : Int) x8_2
      go_wp2_with (first | ((with_reducible refine gate_store (t := 86) (p := 57) rfl ?_); refine store_event (t := 86) (p := 57) (v := ?vo_w40) (w1 := (wr.setCell ⟨go37, ((x5_4.length : Int) : Int).toNat, none⟩ (.int .u32 x8_2))) ?hg ?ho ?hn ?hr ?_; (case ho => rfl); (case hg => rfl); (case hn => rfl); (case hr => first | (go_simp; done) | (go_simp; rfl)); intro w40 hw; have hg : wr.grownBy w40 (some go37) := (by rw [hw]; exact HP39.2); have hp_ : Kd.R (Kd.int .u32) 86 w40 w.heap.size (fun _ => True) (.slice (some ⟨go37, 0, none⟩) x7_2.length co37) y262 := (by rw [hw, Ny262.out]; exact HP39.1); clear HP39; have n0_ := Aside0.mk (Kd.V_afterv (v := (.slice (some ⟨go37, 0, none⟩) x7_2.length co37)) (v1 := (.slice (some ⟨go37, 0, none⟩) x7_2.length co37)) (ok := (fun _ => True)) zq42 hg (.inl rfl)); have n1_ := Aside0.mk (Kd.V_afterv (v := (.slice (some ⟨go37, 0, none⟩) x7_2.length co37)) (v1 := (.slice (some ⟨go37, 0, none⟩) x7_2.length co37)) (ok := (fun _ => True)) zq19 hg (.inl rfl)); have n2_ := Aside0.mk (hp_); have n3_ := Aside0.mk ((by rw [hw]; exact below_set (HB.out) GB37.out : Below w.heap.size w w40)); revert n0_ n1_ n2_ n3_; clear HO_5 HO_6 HO_7 HB; intro HO_5 HO_6 HO_7 HB; clear hg hw hp_) | ((with_reducible refine gate_callee (f := 67) rfl ?_); refine goesL_ (some 59) rfl rfl Tryd.func67 (by kernel_rfl) rfl #[.slice (some ⟨go37, 0, none⟩) y262.length co37] rfl (by (try simp only [List.map_toArray, List.map_cons, List.map_nil]); first | done | (rw [show y262.length = x7_2.length from (Kd.R_reads' HO_7.out).1.symm] <;> rfl) | rfl | (simp only [List.length_drop, List.length_take]; rfl)) ?_; (with_reducible refine (N1limbs_text.calls k2 _ _ y262 t263 _ ?side1 ?side2 A38.out).mono ?_); (case side1 => exact sC (Kd.R_reads' HO_7.out).2.2); (case side2 => rw [show y262.length = x7_2.length from (Kd.R_reads' HO_7.out).1.symm]; exact (Kd.R_reads' HO_7.out).2.1); rintro e w41 ⟨rfl, hb⟩; refine ⟨_, rfl, ?_⟩; have n0_ := Aside0.mk (Kd.V_below zq15 hb); have n1_ := Aside0.mk (Kd.V_below zq12 hb); have n2_ := Aside0.mk (Kd.R_below zq26 hb); have n3_ := sB hb; revert n0_ n1_ n2_ n3_; clear HO_5 HO_6 HO_7 HB; intro HO_5 HO_6 HO_7 HB; (try clear hb); (try clear hb2); (try clear hk); (try clear hi)))
      go_ret
      exact ⟨by first | rfl | (simp [errW_none, errW_some] <;> rfl) | (simp only [← hji11]; first | rfl | (simp [errW_none, errW_some] <;> rfl)) | (simp [*, errW_none, errW_some] <;> rfl), zH⟩
def N1subtract.l0 : Nat → List Int → List Int → List Int → Int → Int → Int → Option (List Int)
 | 0, _, _, _, _, _, _ => none
 | k + 1, x0, x1, x5, x6, x13, x14 => if x14 < x13 then (if x14 < (x1.length : Int) then (if 0 ≤ x14 then (if x14 < (x0.length : Int) then ((bits_Sub32.f (rd x0 x14) (rd x1 x14) x6).bind fun bt269 => (if x14 < (x5.length : Int) then (N1subtract.l0 k x0 x1 (x5.set (x14 : Int).toNat bt269.1) bt269.2 x13 (wrap64 (x14 + 1))) else (none))) else (none)) else (none)) else (if 0 ≤ x14 then (if x14 < (x0.length : Int) then ((bits_Sub32.f (rd x0 x14) 0 x6).bind fun bt273 => (if x14 < (x5.length : Int) then (N1subtract.l0 k x0 x1 (x5.set (x14 : Int).toNat bt273.1) bt273.2 x13 (wrap64 (x14 + 1))) else (none))) else (none)) else (none))) else ((N1limbs_trim.f k x5).bind fun t276 => (some t276))
def N1subtract.f (k : Nat) (l0 : List Int) (l1 : List Int) : Option (List Int) := if 0 ≤ (l0.length : Int) then (if ((l0.length : Int) : Int).toNat ≤ 70368744177664 then (N1subtract.l0 k l0 l1 (List.replicate ((l0.length : Int) : Int).toNat 0) 0 (l0.length : Int) 0) else (none)) else (none)
set_option maxHeartbeats 8000000 in
set_option maxRecDepth 100000 in
theorem N1subtract.calls (k : Nat) (A0 : Option Addr) (c0 : Nat) (l0 : List Int) (A1 : Option Addr) (c1 : Nat) (l1 : List Int) (r : List Int) (w : World) (hr0 : Kd.C (Kd.int .u32) w A0 l0.length l0) (hc0 : l0.length ≤ c0) (hr1 : Kd.C (Kd.int .u32) w A1 l1.length l1) (hc1 : l1.length ≤ c1) (h : N1subtract.f k l0 l1 = some r) :
 Calls Tryd.prog 89 #[.slice A0 l0.length c0, .slice A1 l1.length c1] w fun e w' => ∃ v0_ : Value, e = .returned (v0_) ∧ Kd.V (Kd.int .u32) 86 w' w.heap.size (fun k_ => (w.heap.size ≤ k_)) v0_ r ∧ Below w.heap.size w w' := by
 have HR0 := Aside0.mk hr0
 have HC0 := Aside0.mk hc0
 clear hr0 hc0
 have HR1 := Aside0.mk hr1
 have HC1 := Aside0.mk hc1
 clear hr1 hc1
 have HB := Aside0.mk (Below.refl w.heap.size w)
 have H : (if 0 ≤ (l0.length : Int) then (if ((l0.length : Int) : Int).toNat ≤ 70368744177664 then (N1subtract.l0 k l0 l1 (List.replicate ((l0.length : Int) : Int).toNat 0) 0 (l0.length : Int) 0) else (none)) else (none)) = some r := h
 clear h
 replace H := iteE H
 obtain ⟨c3b0, c3b1, H⟩ := H
 replace H := iteE H
 obtain ⟨c4b0, c4b1, H⟩ := H
 obtain ⟨y264, hy264⟩ : ∃ y_ : List Int, y_ = (List.replicate ((l0.length : Int) : Int).toNat 0) := ⟨_, rfl⟩
 (try rw [Option.bind_some] at H); (try rw [← hy264] at H)
 have Ny264 := Aside0.mk hy264
 clear hy264
 have H' := Aside0.mk H
 clear H
 go_enter Tryd.func89, Tryd.ntmps89
 go_wp2_with (first | ((with_reducible refine gate_dst (N := 11) rfl ?_); refine Kd.R_make (Kd.int .u32) _ 86 rfl (N := 11) rfl 84 _ _ rfl (l0.length : Int) rfl rfl Tryd.underlying84 (.int .u32 0) 4 info86 rfl (by decide) (by omega) 0 (ok := fun _ => True) (okp := fun _ => True) rfl (fun _ hk => hk) trivial (of_decide_eq_true zq0) (Nat.le_trans (Nat.mul_le_mul_right _ (of_decide_eq_true zq0 : (l0.length : Int).toNat ≤ 70368744177664)) (by omega)) (Below.refl _ _) (Nat.le_refl _) ?_; intro v265 w5 ho6 hb hg_ hnew_; clear hg_ hnew_; (first | rw [← Ny264.out] at ho6 | (simp only [Int.reduceToNat] at ho6; rw [← Ny264.out] at ho6)); have n0_ := Aside0.mk (Kd.R_lower (Kd.R_newM (M := fun k_ => (w.heap.size ≤ k_)) ho6 (below_size zH) (fun k_ h_ => h_)) (below_size zH)); have n1_ := sB hb; revert n0_ n1_; clear HB; intro HO266 HB; clear hb ho6))
 go_loopg [6, 14] k (fun kq v6 v14 w' => ∃ (x5_1 : List Int) (x6_1 : Int) (x14_1 : Int), v6 = .int .u32 x6_1 ∧ v14 = .int .i64 x14_1 ∧ Aside0 (N1subtract.l0 kq l0 l1 x5_1 x6_1 (l0.length : Int) x14_1 = some r) ∧ Aside0 (kq ≤ k) ∧ Aside0 (Kd.R (Kd.int .u32) 86 w' w.heap.size (fun k_ => (w.heap.size ≤ k_)) v265 x5_1) ∧ Aside0 (Below w.heap.size w w'))
 case atStart => exact ⟨(y264), (0), (0), zq1, zq1, H', ⟨Nat.le_refl _⟩, ⟨by (with_reducible repeat (first | apply Kd.R_alloc | apply Kd.R_drewN | apply Kd.R_drew)); exact Kd.R_mono HO266.out (fun _ hk => hk.1)⟩, ⟨zH⟩⟩
 case round =>
  clear H'
  obtain ⟨x5_1, x6_1, x14_1, rfl, rfl, HA, HK1, HO_5, HB⟩ := hrel
  cases gk with
  | zero => exact absurd HA.out (by simp [N1subtract.l0])
  | succ k1 =>
   have H := HA.out
   clear HA
   simp only [N1subtract.l0] at H
   by_cases c7 : x14_1 < (l0.length : Int)
   ·rw [if_pos c7] at H
    have c7b0 := decide_eq_true c7
    clear c7
    by_cases c8 : x14_1 < (l1.length : Int)
    ·rw [if_pos c8] at H
     have c8b0 := decide_eq_true c8
     clear c8
     replace H := iteD H
     obtain ⟨c9b0, H⟩ := H
     replace H := iteD H
     obtain ⟨c10b0, H⟩ := H
     replace H := bS H
     obtain ⟨⟨t269, t270⟩, A11, H⟩ := H
     (try dsimp only at H)
     replace H := iteD H
     obtain ⟨c12b0, H⟩ := H
     obtain ⟨y271, hy271⟩ : ∃ y_ : List Int, y_ = (x5_1.set (x14_1 : Int).toNat t269) := ⟨_, rfl⟩
     (try rw [Option.bind_some] at H); (try rw [← hy271] at H)
     have Ny271 := Aside0.mk hy271
     clear hy271
     have H' := Aside0.mk H
     clear H
     obtain ⟨ad267, e267, hx267_0, p267, q267⟩ := atI HR1.out x14_1
     cases e267
     (try replace hx267_0 := (HB.out.cell (World.block_lt_of_cell? w _ hx267_0)).trans hx267_0)
     obtain ⟨ad268, e268, hx268_0, p268, q268⟩ := atI HR0.out x14_1
     cases e268
     (try replace hx268_0 := (HB.out.cell (World.block_lt_of_cell? w _ hx268_0)).trans hx268_0)
     go_wp2_with (first | (refine goesLA 34 Tryd.func102 #[.int .u32 (rd l0 x14_1), .int .u32 (rd l1 x14_1), .int .u32 x6_1] ?_; (with_reducible refine (bits_Sub32.calls (rd l0 x14_1) (rd l1 x14_1) x6_1 t269 t270 _ A11.out).mono ?_); rintro e w' ⟨rfl, ⟨nd, rfl⟩⟩; refine ⟨_, rfl, ?_⟩; (try (rw [drewN_self wr]; generalize hq_ : World.drewN wr _ = wr; have n0_ : Aside0 (Kd.R (Kd.int .u32) 86 wr w.heap.size (fun k_ => (w.heap.size ≤ k_)) v265 x5_1) := ⟨by rw [← hq_]; exact zq22⟩; have n1_ : Aside0 (Below w.heap.size w wr) := ⟨by rw [← hq_]; exact zH⟩; clear HO_5 HB hq_; have HO_5 := n0_; have HB := n1_; clear n0_ n1_)); have p13 : 0 ≤ (x14_1 : Int) := of_decide_eq_true zq0; have q13 : (x14_1 : Int) < ((x5_1.length : Int) : Int) := of_decide_eq_true zq0; obtain ⟨go13, co13, eo13, gb13, gl13, cl13, HG13⟩ := Kd.R_form HO_5.out (by omega); (first | cases eo13 | (injection eo13 with ea_ en_ ec_; (first | subst ea_ | (injection ea_ with ea_; subst ea_)); subst ec_; clear en_)); have GB13 := Aside0.mk gb13; have GG13 := Aside0.mk HG13; clear gb13 gl13 HG13; obtain ⟨hx13_0, hf13_0⟩ := Kd.R_celln 0 HO_5.out (x14_1 : Int) p13 q13; replace p13 := eq_true p13; replace q13 := eq_true q13; obtain ⟨hy14_, hz14_⟩ := Kd.R_celln 0 HO_5.out (x14_1 : Int) (of_decide_eq_true zq0) (of_decide_eq_true zq0); have HP14 := Kd.R_putg HO_5.out (x14_1 : Int) t269) | ((with_reducible refine gate_store (t := 86) (p := 37) rfl ?_); refine store_event (t := 86) (p := 37) (v := ?vo_w15) (w1 := (wr.setCell ⟨go13, (x14_1 : Int).toNat, none⟩ (.int .u32 t269))) ?hg ?ho ?hn ?hr ?_; (case ho => rfl); (case hg => rfl); (case hn => rfl); (case hr => first | (go_simp; done) | (go_simp; rfl)); intro w15 hw; have hg : wr.grownBy w15 (some go13) := (by rw [hw]; exact HP14.2); have hp_ : Kd.R (Kd.int .u32) 86 w15 w.heap.size (fun k_ => (w.heap.size ≤ k_)) (.slice (some ⟨go13, 0, none⟩) x5_1.length co13) y271 := (by rw [hw, Ny271.out]; exact HP14.1); clear HP14; have n0_ := Aside0.mk (hp_); have n1_ := Aside0.mk ((by rw [hw]; exact below_set (HB.out) GB13.out : Below w.heap.size w w15)); revert n0_ n1_; clear HO_5 HB; intro HO_5 HB; clear hg hw hp_))
     go_roundg k1
     case measure => have := HK1.out; omega
     case rel => exact ⟨(y271), (t270), (wrap64 (x14_1 + 1)), zq1, zq1, H', ⟨by have := HK1.out; omega⟩, ⟨by (with_reducible repeat (first | apply Kd.R_alloc | apply Kd.R_drewN | apply Kd.R_drew)); exact HO_5.out⟩, ⟨zH⟩⟩
    ·rw [if_neg c8] at H
     have c8b0 := decide_eq_false c8
     clear c8
     replace H := iteD H
     obtain ⟨c16b0, H⟩ := H
     replace H := iteD H
     obtain ⟨c17b0, H⟩ := H
     replace H := bS H
     obtain ⟨⟨t273, t274⟩, A18, H⟩ := H
     (try dsimp only at H)
     replace H := iteD H
     obtain ⟨c19b0, H⟩ := H
     obtain ⟨y275, hy275⟩ : ∃ y_ : List Int, y_ = (x5_1.set (x14_1 : Int).toNat t273) := ⟨_, rfl⟩
     (try rw [Option.bind_some] at H); (try rw [← hy275] at H)
     have Ny275 := Aside0.mk hy275
     clear hy275
     have H' := Aside0.mk H
     clear H
     obtain ⟨ad272, e272, hx272_0, p272, q272⟩ := atI HR0.out x14_1
     cases e272
     (try replace hx272_0 := (HB.out.cell (World.block_lt_of_cell? w _ hx272_0)).trans hx272_0)
     go_wp2_with (first | (refine goesLA 34 Tryd.func102 #[.int .u32 (rd l0 x14_1), .int .u32 0, .int .u32 x6_1] ?_; (with_reducible refine (bits_Sub32.calls (rd l0 x14_1) 0 x6_1 t273 t274 _ A18.out).mono ?_); rintro e w' ⟨rfl, ⟨nd, rfl⟩⟩; refine ⟨_, rfl, ?_⟩; (try (rw [drewN_self wr]; generalize hq_ : World.drewN wr _ = wr; have n0_ : Aside0 (Kd.R (Kd.int .u32) 86 wr w.heap.size (fun k_ => (w.heap.size ≤ k_)) v265 x5_1) := ⟨by rw [← hq_]; exact zq22⟩; have n1_ : Aside0 (Below w.heap.size w wr) := ⟨by rw [← hq_]; exact zH⟩; clear HO_5 HB hq_; have HO_5 := n0_; have HB := n1_; clear n0_ n1_)); have p20 : 0 ≤ (x14_1 : Int) := of_decide_eq_true zq0; have q20 : (x14_1 : Int) < ((x5_1.length : Int) : Int) := of_decide_eq_true zq0; obtain ⟨go20, co20, eo20, gb20, gl20, cl20, HG20⟩ := Kd.R_form HO_5.out (by omega); (first | cases eo20 | (injection eo20 with ea_ en_ ec_; (first | subst ea_ | (injection ea_ with ea_; subst ea_)); subst ec_; clear en_)); have GB20 := Aside0.mk gb20; have GG20 := Aside0.mk HG20; clear gb20 gl20 HG20; obtain ⟨hx20_0, hf20_0⟩ := Kd.R_celln 0 HO_5.out (x14_1 : Int) p20 q20; replace p20 := eq_true p20; replace q20 := eq_true q20; obtain ⟨hy21_, hz21_⟩ := Kd.R_celln 0 HO_5.out (x14_1 : Int) (of_decide_eq_true zq0) (of_decide_eq_true zq0); have HP21 := Kd.R_putg HO_5.out (x14_1 : Int) t273) | ((with_reducible refine gate_store (t := 86) (p := 37) rfl ?_); refine store_event (t := 86) (p := 37) (v := ?vo_w22) (w1 := (wr.setCell ⟨go20, (x14_1 : Int).toNat, none⟩ (.int .u32 t273))) ?hg ?ho ?hn ?hr ?_; (case ho => rfl); (case hg => rfl); (case hn => rfl); (case hr => first | (go_simp; done) | (go_simp; rfl)); intro w22 hw; have hg : wr.grownBy w22 (some go20) := (by rw [hw]; exact HP21.2); have hp_ : Kd.R (Kd.int .u32) 86 w22 w.heap.size (fun k_ => (w.heap.size ≤ k_)) (.slice (some ⟨go20, 0, none⟩) x5_1.length co20) y275 := (by rw [hw, Ny275.out]; exact HP21.1); clear HP21; have n0_ := Aside0.mk (hp_); have n1_ := Aside0.mk ((by rw [hw]; exact below_set (HB.out) GB20.out : Below w.heap.size w w22)); revert n0_ n1_; clear HO_5 HB; intro HO_5 HB; clear hg hw hp_))
     go_roundg k1
     case measure => have := HK1.out; omega
     case rel => exact ⟨(y275), (t274), (wrap64 (x14_1 + 1)), zq1, zq1, H', ⟨by have := HK1.out; omega⟩, ⟨by (with_reducible repeat (first | apply Kd.R_alloc | apply Kd.R_drewN | apply Kd.R_drew)); exact HO_5.out⟩, ⟨zH⟩⟩
   ·rw [if_neg c7] at H
    have c7b0 := decide_eq_false c7
    clear c7
    replace H := bS H
    obtain ⟨t276, A23, H⟩ := H
    obtain rfl := Option.some.inj H
    obtain ⟨Ao24, co24, eo24⟩ := Kd.R_slice HO_5.out
    subst eo24
    go_wp2_with (first | (refine goesLA 40 Tryd.func86 #[.slice Ao24 x5_1.length co24] ?_; (with_reducible refine (N1limbs_trim.calls k1 (fun k_ => some k_ = (.slice Ao24 x5_1.length co24 : Value).ownBlock) _ _ x5_1 t276 _ ?side1 A23.out).mono ?_); (case side1 => exact Kd.R_V (Kd.R_tight rfl (HO_5.out))); rintro e w25 ⟨v277, rfl, ho0, hb⟩; refine ⟨_, rfl, ?_⟩; have n0_ := Aside0.mk (Kd.R_below zq22 hb); have n1_ := Aside0.mk (Kd.V_lower (Kd.V_mono (ok' := fun k_ => (w.heap.size ≤ k_)) ho0 (fun k_ hk_ => Or.elim hk_ (fun hs_ => ((HO_5.out).1 k_ hs_.symm)) (fun hn_ => (Nat.le_trans (below_size zH) hn_)))) (below_size zH)); have n2_ := sB hb; revert n0_ n1_ n2_; clear HO_5 HB; intro HO_5 HO278 HB; (try clear hb); (try clear hb2); (try clear hk); (try clear hi); (try clear ho0)))
    go_ret
    exact ⟨_, zE, by (with_reducible repeat (first | apply Kd.V_alloc | apply Kd.V_drewN | apply Kd.V_drew)); exact HO278.out, zH⟩
def N1Subtract.f (k : Nat) (a0 : ByteArray) (a1 : ByteArray) : Option (ByteArray × Bool) := (N1parse.f k a0).bind fun t279 => ((N1parse.f k a1).bind fun t282 => ((N1compare.f k t279 t282).bind fun t285 => (if t285 < 0 then (some ((⟨#[]⟩ : ByteArray), false)) else ((N1subtract.f k t279 t282).bind fun t286 => ((N1limbs_text.f k t286).bind fun t289 => (some (t289, true)))))))
set_option maxHeartbeats 8000000 in
set_option maxRecDepth 100000 in
theorem N1Subtract.calls (k : Nat) (a0 : ByteArray) (a1 : ByteArray) (r1 : ByteArray) (r2 : Bool) (w : World) (h : N1Subtract.f k a0 a1 = some (r1, r2)) :
 Calls Tryd.prog 69 #[.string a0, .string a1] w fun e w' => e = .returned (.tuple #[.string r1, .bool r2]) ∧ Below w.heap.size w w' := by
 have HB := Aside0.mk (Below.refl w.heap.size w)
 have H : ((N1parse.f k a0).bind fun t279 => ((N1parse.f k a1).bind fun t282 => ((N1compare.f k t279 t282).bind fun t285 => (if t285 < 0 then (some ((⟨#[]⟩ : ByteArray), false)) else ((N1subtract.f k t279 t282).bind fun t286 => ((N1limbs_text.f k t286).bind fun t289 => (some (t289, true)))))))) = some (r1, r2) := h
 clear h
 replace H := bS H
 obtain ⟨t279, A3, H⟩ := H
 replace H := bS H
 obtain ⟨t282, A4, H⟩ := H
 replace H := bS H
 obtain ⟨t285, A5, H⟩ := H
 by_cases c6 : t285 < 0
 ·rw [if_pos c6] at H
  have c6b0 := decide_eq_true c6
  clear c6
  simp only [Option.some.injEq, Prod.mk.injEq] at H
  obtain ⟨rfl, rfl⟩ := H
  go_enter Tryd.func69, Tryd.ntmps69
  go_wp2_with (first | (refine goesLA 9 Tryd.func66 #[.string a0] ?_; (with_reducible refine (N1parse.calls k a0 t279 _ A3.out).mono ?_); rintro e w7 ⟨v280, rfl, ho0, hb⟩; refine ⟨_, rfl, ?_⟩; have n0_ := Aside0.mk (Kd.V_lower (Kd.V_mono (ok' := fun k_ => True) ho0 (fun k_ hk_ => trivial)) (below_size zH)); have n1_ := sB hb; revert n0_ n1_; clear HB; intro HO281 HB; (try clear hb); (try clear hb2); (try clear hk); (try clear hi); (try clear ho0)) | (refine goesLA 11 Tryd.func66 #[.string a1] ?_; (with_reducible refine (N1parse.calls k a1 t282 _ A4.out).mono ?_); rintro e w8 ⟨v283, rfl, ho0, hb⟩; refine ⟨_, rfl, ?_⟩; have n0_ := Aside0.mk (Kd.V_below zq27 hb); have n1_ := Aside0.mk (Kd.V_lower (Kd.V_mono (ok' := fun k_ => True) ho0 (fun k_ hk_ => trivial)) (below_size zH)); have n2_ := sB hb; revert n0_ n1_ n2_; clear HO281 HB; intro HO281 HO284 HB; (try clear hb); (try clear hb2); (try clear hk); (try clear hi); (try clear ho0); obtain ⟨Ao9, co9, eo9⟩ := Kd.V_slice HO281.out; subst eo9; obtain ⟨Ao10, co10, eo10⟩ := Kd.V_slice HO284.out; subst eo10) | (refine goesLA 14 Tryd.func88 #[.slice Ao9 t279.length co9, .slice Ao10 t282.length co10] ?_; (with_reducible refine (N1compare.calls k _ _ t279 _ _ t282 t285 _ ?side1 ?side2 ?side3 ?side4 A5.out).mono ?_); (case side1 => exact sC (Kd.V_reads' HO281.out).2.2); (case side2 => exact (Kd.V_reads' HO281.out).2.1); (case side3 => exact sC (Kd.V_reads' HO284.out).2.2); (case side4 => exact (Kd.V_reads' HO284.out).2.1); rintro e w' ⟨rfl, ⟨nd, rfl⟩⟩; refine ⟨_, rfl, ?_⟩))
  go_ret2
  exact ⟨zE, zH⟩
 ·rw [if_neg c6] at H
  have c6b0 := decide_eq_false c6
  clear c6
  replace H := bS H
  obtain ⟨t286, A11, H⟩ := H
  replace H := bS H
  obtain ⟨t289, A12, H⟩ := H
  simp only [Option.some.injEq, Prod.mk.injEq] at H
  obtain ⟨rfl, rfl⟩ := H
  go_enter Tryd.func69, Tryd.ntmps69
  go_wp2_with (first | (refine goesLA 9 Tryd.func66 #[.string a0] ?_; (with_reducible refine (N1parse.calls k a0 t279 _ A3.out).mono ?_); rintro e w13 ⟨v280, rfl, ho0, hb⟩; refine ⟨_, rfl, ?_⟩; have n0_ := Aside0.mk (Kd.V_lower (Kd.V_mono (ok' := fun k_ => True) ho0 (fun k_ hk_ => trivial)) (below_size zH)); have n1_ := sB hb; revert n0_ n1_; clear HB; intro HO281 HB; (try clear hb); (try clear hb2); (try clear hk); (try clear hi); (try clear ho0)) | (refine goesLA 11 Tryd.func66 #[.string a1] ?_; (with_reducible refine (N1parse.calls k a1 t282 _ A4.out).mono ?_); rintro e w14 ⟨v283, rfl, ho0, hb⟩; refine ⟨_, rfl, ?_⟩; have n0_ := Aside0.mk (Kd.V_below zq27 hb); have n1_ := Aside0.mk (Kd.V_lower (Kd.V_mono (ok' := fun k_ => True) ho0 (fun k_ hk_ => trivial)) (below_size zH)); have n2_ := sB hb; revert n0_ n1_ n2_; clear HO281 HB; intro HO281 HO284 HB; (try clear hb); (try clear hb2); (try clear hk); (try clear hi); (try clear ho0); obtain ⟨Ao15, co15, eo15⟩ := Kd.V_slice HO281.out; subst eo15; obtain ⟨Ao16, co16, eo16⟩ := Kd.V_slice HO284.out; subst eo16) | (refine goesLA 14 Tryd.func88 #[.slice Ao15 t279.length co15, .slice Ao16 t282.length co16] ?_; (with_reducible refine (N1compare.calls k _ _ t279 _ _ t282 t285 _ ?side1 ?side2 ?side3 ?side4 A5.out).mono ?_); (case side1 => exact sC (Kd.V_reads' HO281.out).2.2); (case side2 => exact (Kd.V_reads' HO281.out).2.1); (case side3 => exact sC (Kd.V_reads' HO284.out).2.2); (case side4 => exact (Kd.V_reads' HO284.out).2.1); rintro e w' ⟨rfl, ⟨nd, rfl⟩⟩; refine ⟨_, rfl, ?_⟩) | (refine goesLA 18 Tryd.func89 #[.slice Ao15 t279.length co15, .slice Ao16 t282.length co16] ?_; (with_reducible refine (N1subtract.calls k _ _ t279 _ _ t282 t286 _ ?side1 ?side2 ?side3 ?side4 A11.out).mono ?_); (case side1 => exact sC (Kd.V_reads' HO281.out).2.2); (case side2 => exact (Kd.V_reads' HO281.out).2.1); (case side3 => exact sC (Kd.V_reads' HO284.out).2.2); (case side4 => exact (Kd.V_reads' HO284.out).2.1); rintro e w17 ⟨v287, rfl, ho0, hb⟩; refine ⟨_, rfl, ?_⟩; have n0_ := Aside0.mk (Kd.V_below zq27 hb); have n1_ := Aside0.mk (Kd.V_below (by (with_reducible repeat (first | apply Kd.V_alloc | apply Kd.V_drewN | apply Kd.V_drew)); exact HO284.out) hb); have n2_ := Aside0.mk (Kd.V_lower (Kd.V_mono (ok' := fun k_ => True) ho0 (fun k_ hk_ => trivial)) (below_size zH)); have n3_ := sB hb; revert n0_ n1_ n2_ n3_; clear HO281 HO284 HB; intro HO281 HO284 HO288 HB; (try clear hb); (try clear hb2); (try clear hk); (try clear hi); (try clear ho0); obtain ⟨Ao18, co18, eo18⟩ := Kd.V_slice HO288.out; subst eo18) | (refine goesLA 19 Tryd.func67 #[.slice Ao18 t286.length co18] ?_; (with_reducible refine (N1limbs_text.calls k _ _ t286 t289 _ ?side1 ?side2 A12.out).mono ?_); (case side1 => exact sC (Kd.V_reads' HO288.out).2.2); (case side2 => exact (Kd.V_reads' HO288.out).2.1); rintro e w19 ⟨rfl, hb⟩; refine ⟨_, rfl, ?_⟩; have n0_ := Aside0.mk (Kd.V_below zq27 hb); have n1_ := Aside0.mk (Kd.V_below (by (with_reducible repeat (first | apply Kd.V_alloc | apply Kd.V_drewN | apply Kd.V_drew)); exact HO284.out) hb); have n2_ := Aside0.mk (Kd.V_below (by (with_reducible repeat (first | apply Kd.V_alloc | apply Kd.V_drewN | apply Kd.V_drew)); exact HO288.out) hb); have n3_ := sB hb; revert n0_ n1_ n2_ n3_; clear HO281 HO284 HO288 HB; intro HO281 HO284 HO288 HB; (try clear hb); (try clear hb2); (try clear hk); (try clear hi)))
  go_ret2
  exact ⟨zE, zH⟩
def N1FromUint.f (k : Nat) (a0 : Int) : Option (ByteArray) := (N1limbs_text.f k (([(a0) % 4294967296, (a0 / 4294967296) % 4294967296] : List Int))).bind fun t293 => (some t293)
set_option maxHeartbeats 8000000 in
set_option maxRecDepth 100000 in
theorem N1FromUint.calls (k : Nat) (a0 : Int) (r : ByteArray) (w : World) (h : N1FromUint.f k a0 = some r) :
 Calls Tryd.prog 71 #[.int .u64 a0] w fun e w' => e = .returned (.string r) ∧ Below w.heap.size w w' := by
 have HB := Aside0.mk (Below.refl w.heap.size w)
 have H : ((N1limbs_text.f k (([(a0) % 4294967296, (a0 / 4294967296) % 4294967296] : List Int))).bind fun t293 => (some t293)) = some r := h
 clear h
 obtain ⟨y290, hy290⟩ : ∃ y_ : List Int, y_ = (([(a0) % 4294967296, (a0 / 4294967296) % 4294967296] : List Int)) := ⟨_, rfl⟩
 (try rw [Option.bind_some] at H); (try rw [← hy290] at H)
 have Ny290 := Aside0.mk hy290
 clear hy290
 replace H := bS H
 obtain ⟨t293, A2, H⟩ := H
 obtain rfl := Option.some.inj H
 go_enter Tryd.func71, Tryd.ntmps71
 go_wp2_with (first | ((with_reducible refine gate_dst (N := 8) rfl ?_); refine Kd.R_lit (Kd.int .u32) _ 86 ?hg (N := 8) ?hd (xs := ([(a0) % 4294967296, (a0 / 4294967296) % 4294967296] : List Int)) (inner := [.int .u32 ((a0) % 4294967296), .int .u32 ((a0 / 4294967296) % 4294967296)]) (ok := fun _ => True) (okp := fun _ => True) ?hr ?hp (fun _ hk => hk) trivial (Below.refl _ _) (Nat.le_refl _) (by simp) ?_; (case hd => rfl); (case hg => rfl); (case hr => first | (go_simp; done) | (go_simp; rfl)); (case hp => exact (Reps.one (show Kd.M (Kd.int .u32) _ _ _ ((a0) % 4294967296) [.int .u32 ((a0) % 4294967296)] from rfl) (Reps.one (show Kd.M (Kd.int .u32) _ _ _ ((a0 / 4294967296) % 4294967296) [.int .u32 ((a0 / 4294967296) % 4294967296)] from rfl) (Reps.none _ _)))); intro v291 w3 ho4 hb hg_ hnew_; clear hg_ hnew_; (first | rw [← Ny290.out] at ho4 | (simp only [Int.reduceToNat] at ho4; rw [← Ny290.out] at ho4)); have n0_ := Aside0.mk (Kd.R_lower ho4 (below_size zH)); have n1_ := sB hb; revert n0_ n1_; clear HB; intro HO292 HB; clear hb ho4; obtain ⟨Ao5, co5, eo5⟩ := Kd.R_slice HO292.out; subst eo5) | (refine goesLA 9 Tryd.func67 #[.slice Ao5 y290.length co5] ?_; (with_reducible refine (N1limbs_text.calls k _ _ y290 t293 _ ?side1 ?side2 A2.out).mono ?_); (case side1 => exact sC (Kd.R_reads' HO292.out).2.2); (case side2 => exact (Kd.R_reads' HO292.out).2.1); rintro e w6 ⟨rfl, hb⟩; refine ⟨_, rfl, ?_⟩; have n0_ := Aside0.mk (Kd.R_below (by (with_reducible repeat (first | apply Kd.R_alloc | apply Kd.R_drewN | apply Kd.R_drew)); exact HO292.out) hb); have n1_ := sB hb; revert n0_ n1_; clear HO292 HB; intro HO292 HB; (try clear hb); (try clear hb2); (try clear hk); (try clear hi)))
 go_ret
 exact ⟨zE, zH⟩
end Go.Proofs.YtggfilmdfpmbmaaDoor.QN
end
