-- Several texts in one (wip/tools/merge.py).
import Derived.Test.YtnokgkhkmnldeaaM1
import Derived.Test.YtnokgkhkmnldeaaM8
import Derived.Test.YtnokgkhkmnldeaaM2
section
namespace Go.Proofs.Ytnokgkhkmnldeaa.P
open Go.RowKit Go.Proofs.YtnokgkhkmnldeaaW.PrintWords Go.Proofs.YtnokgkhkmnldeaaW.PrintLast Go.Proofs.YtnokgkhkmnldeaaW.PrintMore
attribute [local go_sem] max2_int min2_int max_two min_two max_three min_three max_four min_four   -- for this text's walks alone
set_option linter.unusedVariables false
set_option linter.unusedSimpArgs false

/-! ### spec_l2Adds: function 100 -/
def spec_l2Adds.j0 : Nat → Int → Int → Bool → Option (Int)
 | 0, _, _, _ => none
 | k + 1, x0, x1, x5 => if x5 = true then (some 2) else (if x0 = 8 then (if x1 > 0 then (some 1) else (if x0 = 9 then (some 1) else (if x0 = 12 then (if x1 = 1 then (some 1) else (some 0)) else (some 0)))) else (if x0 = 9 then (some 1) else (if x0 = 12 then (if x1 = 1 then (some 1) else (some 0)) else (some 0))))
def spec_l2Adds.f (k : Nat) (a0 : Int) (a1 : Int) : Option (Int) := if a0 = 5 then (spec_l2Adds.j0 k a0 a1 (a1 == 1)) else (spec_l2Adds.j0 k a0 a1 false)
set_option maxHeartbeats 8000000 in
set_option maxRecDepth 100000 in
theorem spec_l2Adds.calls (k : Nat) (a0 : Int) (a1 : Int) (r : Int) (w : World) (h : spec_l2Adds.f k a0 a1 = some r) :
  Calls Try.prog 100 #[.int .i64 a0, .int .i64 a1] w fun e w' => e = .returned (.int .i64 r) ∧ Drawn0 w w' := by
 have H : (if a0 = 5 then (spec_l2Adds.j0 k a0 a1 (a1 == 1)) else (spec_l2Adds.j0 k a0 a1 false)) = some r := h
 clear h
 have HC3 := sd_ H
 clear H
 go_enter Try.func100, Try.ntmps100
 go_upto_region 1 with (fail)
 go_cut [5] (fun v5 wc => ∃ (kq : Nat) (x5_2 : Bool), v5 = .bool x5_2 ∧ Aside0 (spec_l2Adds.j0 kq a0 a1 x5_2 = some r) ∧ Aside0 (kq ≤ k) ∧ Drawn0 w wc)
 case first =>
  have H := HC3.out
  clear HC3
  by_cases c4 : a0 = 5
  ·rw [if_pos c4] at H
   have c4b0 : (a0 == 5) = true := beq_iff_eq.mpr c4
   have c4b1 : (a0 != 5) = false := bne_eq_false_iff_eq.mpr c4
   clear c4
   (first | rw [c4b0] | (simp only [i64_w, i32_w]; rw [c4b0]) | skip)
   have H' := sd_ H
   clear H
   go_wp2
   go_meet
   case rel => exact ⟨_, ((a1 == 1)), (by first | rfl | (simp; done) | (simp [*]; done)), H', ⟨by first | omega | exact Nat.le_refl _⟩, by repeat (first | exact Drawn0.refl _ | apply Drawn0.step)⟩
  ·rw [if_neg c4] at H
   have c4b0 : (a0 == 5) = false := beq_eq_false_iff_ne.mpr c4
   have c4b1 : (a0 != 5) = true := bne_iff_ne.mpr c4
   (first | rw [c4b0] | (simp only [i64_w, i32_w]; rw [c4b0]) | skip)
   have H' := sd_ H
   clear H
   go_wp2
   go_meet
   case rel => exact ⟨_, (false), (by first | rfl | (simp; done) | (simp [*]; done)), H', ⟨by first | omega | exact Nat.le_refl _⟩, by repeat (first | exact Drawn0.refl _ | apply Drawn0.step)⟩
 case rest =>
  clear HC3
  try clear c1
  obtain ⟨kq, x5_2, rfl, HA, HJ2, ⟨mc2, rfl⟩⟩ := hcut
  cases kq with
  | zero => exact absurd HA.out (by simp [spec_l2Adds.j0])
  | succ kj2 =>
   have H := HA.out
   clear HA
   simp only [spec_l2Adds.j0] at H
   by_cases c5 : x5_2 = true
   ·subst c5
    have H1 : (some 2) = some r := by rw [if_pos rfl] at H; exact H
    clear H
    have H := H1
    clear H1
    obtain rfl := Option.some.inj H
    go_wp2
    go_ret
    exact ⟨by first | rfl | (simp; done) | (simp [*]; done), by repeat (first | exact Drawn0.refl _ | apply Drawn0.step)⟩
   ·replace c5 := Bool.eq_false_iff.mpr c5
    subst c5
    have H1 : (if a0 = 8 then (if a1 > 0 then (some 1) else (if a0 = 9 then (some 1) else (if a0 = 12 then (if a1 = 1 then (some 1) else (some 0)) else (some 0)))) else (if a0 = 9 then (some 1) else (if a0 = 12 then (if a1 = 1 then (some 1) else (some 0)) else (some 0)))) = some r := by rw [if_neg (show ¬ (false = true) by decide)] at H; exact H
    clear H
    have H := H1
    clear H1
    by_cases c6 : a0 = 8
    ·rw [if_pos c6] at H
     have c6b0 : (a0 == 8) = true := beq_iff_eq.mpr c6
     have c6b1 : (a0 != 8) = false := bne_eq_false_iff_eq.mpr c6
     clear c6
     by_cases c7 : a1 > 0
     ·rw [if_pos c7] at H
      have c7b0 : decide (0 < a1) = true := decide_eq_true c7
      clear c7
      obtain rfl := Option.some.inj H
      go_wp2
      go_ret
      exact ⟨by first | rfl | (simp; done) | (simp [*]; done), by repeat (first | exact Drawn0.refl _ | apply Drawn0.step)⟩
     ·rw [if_neg c7] at H
      have c7b0 : decide (0 < a1) = false := decide_eq_false c7
      clear c7
      by_cases c8 : a0 = 9
      ·rw [if_pos c8] at H
       have c8b0 : (a0 == 9) = true := beq_iff_eq.mpr c8
       have c8b1 : (a0 != 9) = false := bne_eq_false_iff_eq.mpr c8
       clear c8
       obtain rfl := Option.some.inj H
       go_wp2
       go_ret
       exact ⟨by first | rfl | (simp; done) | (simp [*]; done), by repeat (first | exact Drawn0.refl _ | apply Drawn0.step)⟩
      ·rw [if_neg c8] at H
       have c8b0 : (a0 == 9) = false := beq_eq_false_iff_ne.mpr c8
       have c8b1 : (a0 != 9) = true := bne_iff_ne.mpr c8
       by_cases c9 : a0 = 12
       ·rw [if_pos c9] at H
        have c9b0 : (a0 == 12) = true := beq_iff_eq.mpr c9
        have c9b1 : (a0 != 12) = false := bne_eq_false_iff_eq.mpr c9
        clear c9
        by_cases c10 : a1 = 1
        ·rw [if_pos c10] at H
         have c10b0 : (a1 == 1) = true := beq_iff_eq.mpr c10
         have c10b1 : (a1 != 1) = false := bne_eq_false_iff_eq.mpr c10
         clear c10
         obtain rfl := Option.some.inj H
         go_wp2
         go_ret
         exact ⟨by first | rfl | (simp; done) | (simp [*]; done), by repeat (first | exact Drawn0.refl _ | apply Drawn0.step)⟩
        ·rw [if_neg c10] at H
         have c10b0 : (a1 == 1) = false := beq_eq_false_iff_ne.mpr c10
         have c10b1 : (a1 != 1) = true := bne_iff_ne.mpr c10
         obtain rfl := Option.some.inj H
         go_wp2
         go_ret
         exact ⟨by first | rfl | (simp; done) | (simp [*]; done), by repeat (first | exact Drawn0.refl _ | apply Drawn0.step)⟩
       ·rw [if_neg c9] at H
        have c9b0 : (a0 == 12) = false := beq_eq_false_iff_ne.mpr c9
        have c9b1 : (a0 != 12) = true := bne_iff_ne.mpr c9
        obtain rfl := Option.some.inj H
        go_wp2
        go_ret
        exact ⟨by first | rfl | (simp; done) | (simp [*]; done), by repeat (first | exact Drawn0.refl _ | apply Drawn0.step)⟩
    ·rw [if_neg c6] at H
     have c6b0 : (a0 == 8) = false := beq_eq_false_iff_ne.mpr c6
     have c6b1 : (a0 != 8) = true := bne_iff_ne.mpr c6
     by_cases c11 : a0 = 9
     ·rw [if_pos c11] at H
      have c11b0 : (a0 == 9) = true := beq_iff_eq.mpr c11
      have c11b1 : (a0 != 9) = false := bne_eq_false_iff_eq.mpr c11
      clear c11
      obtain rfl := Option.some.inj H
      go_wp2
      go_ret
      exact ⟨by first | rfl | (simp; done) | (simp [*]; done), by repeat (first | exact Drawn0.refl _ | apply Drawn0.step)⟩
     ·rw [if_neg c11] at H
      have c11b0 : (a0 == 9) = false := beq_eq_false_iff_ne.mpr c11
      have c11b1 : (a0 != 9) = true := bne_iff_ne.mpr c11
      by_cases c12 : a0 = 12
      ·rw [if_pos c12] at H
       have c12b0 : (a0 == 12) = true := beq_iff_eq.mpr c12
       have c12b1 : (a0 != 12) = false := bne_eq_false_iff_eq.mpr c12
       clear c12
       by_cases c13 : a1 = 1
       ·rw [if_pos c13] at H
        have c13b0 : (a1 == 1) = true := beq_iff_eq.mpr c13
        have c13b1 : (a1 != 1) = false := bne_eq_false_iff_eq.mpr c13
        clear c13
        obtain rfl := Option.some.inj H
        go_wp2
        go_ret
        exact ⟨by first | rfl | (simp; done) | (simp [*]; done), by repeat (first | exact Drawn0.refl _ | apply Drawn0.step)⟩
       ·rw [if_neg c13] at H
        have c13b0 : (a1 == 1) = false := beq_eq_false_iff_ne.mpr c13
        have c13b1 : (a1 != 1) = true := bne_iff_ne.mpr c13
        obtain rfl := Option.some.inj H
        go_wp2
        go_ret
        exact ⟨by first | rfl | (simp; done) | (simp [*]; done), by repeat (first | exact Drawn0.refl _ | apply Drawn0.step)⟩
      ·rw [if_neg c12] at H
       have c12b0 : (a0 == 12) = false := beq_eq_false_iff_ne.mpr c12
       have c12b1 : (a0 != 12) = true := bne_iff_ne.mpr c12
       obtain rfl := Option.some.inj H
       go_wp2
       go_ret
       exact ⟨by first | rfl | (simp; done) | (simp [*]; done), by repeat (first | exact Drawn0.refl _ | apply Drawn0.step)⟩


/-! ### impl_adds: function 103 -/
mutual
def impl_adds.j0 : Nat → Int → Int → Bool → Option (Int)
 | 0, _, _, _ => none
 | k + 1, x0, x1, x5 => if x5 = true then (some 2) else (if x0 = 8 then (impl_adds.j1 k x0 x1 (decide (x1 > 0))) else (impl_adds.j1 k x0 x1 false))
def impl_adds.j1 : Nat → Int → Int → Bool → Option (Int)
 | 0, _, _, _ => none
 | k + 1, x0, x1, x12 => if x12 = true then (some 1) else (if x0 = 9 then (some 1) else (if x0 = 12 then (if x1 = 1 then (some 1) else (some 0)) else (some 0)))
end
def impl_adds.f (k : Nat) (a0 : Int) (a1 : Int) : Option (Int) := if a0 = 5 then (impl_adds.j0 k a0 a1 (a1 == 1)) else (impl_adds.j0 k a0 a1 false)
set_option maxHeartbeats 8000000 in
set_option maxRecDepth 100000 in
theorem impl_adds.calls (k : Nat) (a0 : Int) (a1 : Int) (r : Int) (w : World) (h : impl_adds.f k a0 a1 = some r) :
  Calls Try.prog 103 #[.int .i64 a0, .int .i64 a1] w fun e w' => e = .returned (.int .i64 r) ∧ Drawn0 w w' := by
 have H : (if a0 = 5 then (impl_adds.j0 k a0 a1 (a1 == 1)) else (impl_adds.j0 k a0 a1 false)) = some r := h
 clear h
 have HC3 := sd_ H
 clear H
 go_enter Try.func103, Try.ntmps103
 go_upto_region 1 with (fail)
 go_cut [5] (fun v5 wc => ∃ (kq : Nat) (x5_2 : Bool), v5 = .bool x5_2 ∧ Aside0 (impl_adds.j0 kq a0 a1 x5_2 = some r) ∧ Aside0 (kq ≤ k) ∧ Drawn0 w wc)
 case first =>
  have H := HC3.out
  clear HC3
  by_cases c4 : a0 = 5
  ·rw [if_pos c4] at H
   have c4b0 : (a0 == 5) = true := beq_iff_eq.mpr c4
   have c4b1 : (a0 != 5) = false := bne_eq_false_iff_eq.mpr c4
   clear c4
   (first | rw [c4b0] | (simp only [i64_w, i32_w]; rw [c4b0]) | skip)
   have H' := sd_ H
   clear H
   go_wp2
   go_meet
   case rel => exact ⟨_, ((a1 == 1)), (by first | rfl | (simp; done) | (simp [*]; done)), H', ⟨by first | omega | exact Nat.le_refl _⟩, by repeat (first | exact Drawn0.refl _ | apply Drawn0.step)⟩
  ·rw [if_neg c4] at H
   have c4b0 : (a0 == 5) = false := beq_eq_false_iff_ne.mpr c4
   have c4b1 : (a0 != 5) = true := bne_iff_ne.mpr c4
   (first | rw [c4b0] | (simp only [i64_w, i32_w]; rw [c4b0]) | skip)
   have H' := sd_ H
   clear H
   go_wp2
   go_meet
   case rel => exact ⟨_, (false), (by first | rfl | (simp; done) | (simp [*]; done)), H', ⟨by first | omega | exact Nat.le_refl _⟩, by repeat (first | exact Drawn0.refl _ | apply Drawn0.step)⟩
 case rest =>
  clear HC3
  try clear c1
  obtain ⟨kq, x5_2, rfl, HA, HJ2, ⟨mc2, rfl⟩⟩ := hcut
  cases kq with
  | zero => exact absurd HA.out (by simp [impl_adds.j0])
  | succ kj2 =>
   have H := HA.out
   clear HA
   simp only [impl_adds.j0] at H
   by_cases c5 : x5_2 = true
   ·subst c5
    have H1 : (some 2) = some r := by rw [if_pos rfl] at H; exact H
    clear H
    have H := H1
    clear H1
    obtain rfl := Option.some.inj H
    go_wp2
    go_ret
    exact ⟨by first | rfl | (simp; done) | (simp [*]; done), by repeat (first | exact Drawn0.refl _ | apply Drawn0.step)⟩
   ·replace c5 := Bool.eq_false_iff.mpr c5
    subst c5
    have H1 : (if a0 = 8 then (impl_adds.j1 kj2 a0 a1 (decide (a1 > 0))) else (impl_adds.j1 kj2 a0 a1 false)) = some r := by rw [if_neg (show ¬ (false = true) by decide)] at H; exact H
    clear H
    have H := H1
    clear H1
    have HC6 := sd_ H
    clear H
    go_upto_region 3 with (fail)
    go_cut [12] (fun v12 wc => ∃ (kq : Nat) (x12_5 : Bool), v12 = .bool x12_5 ∧ Aside0 (impl_adds.j1 kq a0 a1 x12_5 = some r) ∧ Aside0 (kq ≤ kj2) ∧ Drawn0 w wc)
    case first =>
     have H := HC6.out
     clear HC6
     by_cases c7 : a0 = 8
     ·rw [if_pos c7] at H
      have c7b0 : (a0 == 8) = true := beq_iff_eq.mpr c7
      have c7b1 : (a0 != 8) = false := bne_eq_false_iff_eq.mpr c7
      clear c7
      (first | rw [c7b0] | (simp only [i64_w, i32_w]; rw [c7b0]) | skip)
      have H' := sd_ H
      clear H
      go_wp2
      go_meet
      case rel => exact ⟨_, (decide (a1 > 0)), (by first | rfl | (simp; done) | (simp [*]; done)), H', ⟨by have := HJ2.out; first | omega | exact Nat.le_refl _⟩, by repeat (first | exact Drawn0.refl _ | apply Drawn0.step)⟩
     ·rw [if_neg c7] at H
      have c7b0 : (a0 == 8) = false := beq_eq_false_iff_ne.mpr c7
      have c7b1 : (a0 != 8) = true := bne_iff_ne.mpr c7
      (first | rw [c7b0] | (simp only [i64_w, i32_w]; rw [c7b0]) | skip)
      have H' := sd_ H
      clear H
      go_wp2
      go_meet
      case rel => exact ⟨_, (false), (by first | rfl | (simp; done) | (simp [*]; done)), H', ⟨by have := HJ2.out; first | omega | exact Nat.le_refl _⟩, by repeat (first | exact Drawn0.refl _ | apply Drawn0.step)⟩
    case rest =>
     clear HC6
     try clear c1
     try clear c2
     try clear c5
     obtain ⟨kq, x12_5, rfl, HA, HJ5, ⟨mc5, rfl⟩⟩ := hcut
     cases kq with
     | zero => exact absurd HA.out (by simp [impl_adds.j1])
     | succ kj5 =>
      have H := HA.out
      clear HA
      simp only [impl_adds.j1] at H
      by_cases c8 : x12_5 = true
      ·subst c8
       have H1 : (some 1) = some r := by rw [if_pos rfl] at H; exact H
       clear H
       have H := H1
       clear H1
       obtain rfl := Option.some.inj H
       go_wp2
       go_ret
       exact ⟨by first | rfl | (simp; done) | (simp [*]; done), by repeat (first | exact Drawn0.refl _ | apply Drawn0.step)⟩
      ·replace c8 := Bool.eq_false_iff.mpr c8
       subst c8
       have H1 : (if a0 = 9 then (some 1) else (if a0 = 12 then (if a1 = 1 then (some 1) else (some 0)) else (some 0))) = some r := by rw [if_neg (show ¬ (false = true) by decide)] at H; exact H
       clear H
       have H := H1
       clear H1
       by_cases c9 : a0 = 9
       ·rw [if_pos c9] at H
        have c9b0 : (a0 == 9) = true := beq_iff_eq.mpr c9
        have c9b1 : (a0 != 9) = false := bne_eq_false_iff_eq.mpr c9
        clear c9
        obtain rfl := Option.some.inj H
        go_wp2
        go_ret
        exact ⟨by first | rfl | (simp; done) | (simp [*]; done), by repeat (first | exact Drawn0.refl _ | apply Drawn0.step)⟩
       ·rw [if_neg c9] at H
        have c9b0 : (a0 == 9) = false := beq_eq_false_iff_ne.mpr c9
        have c9b1 : (a0 != 9) = true := bne_iff_ne.mpr c9
        by_cases c10 : a0 = 12
        ·rw [if_pos c10] at H
         have c10b0 : (a0 == 12) = true := beq_iff_eq.mpr c10
         have c10b1 : (a0 != 12) = false := bne_eq_false_iff_eq.mpr c10
         clear c10
         by_cases c11 : a1 = 1
         ·rw [if_pos c11] at H
          have c11b0 : (a1 == 1) = true := beq_iff_eq.mpr c11
          have c11b1 : (a1 != 1) = false := bne_eq_false_iff_eq.mpr c11
          clear c11
          obtain rfl := Option.some.inj H
          go_wp2
          go_ret
          exact ⟨by first | rfl | (simp; done) | (simp [*]; done), by repeat (first | exact Drawn0.refl _ | apply Drawn0.step)⟩
         ·rw [if_neg c11] at H
          have c11b0 : (a1 == 1) = false := beq_eq_false_iff_ne.mpr c11
          have c11b1 : (a1 != 1) = true := bne_iff_ne.mpr c11
          obtain rfl := Option.some.inj H
          go_wp2
          go_ret
          exact ⟨by first | rfl | (simp; done) | (simp [*]; done), by repeat (first | exact Drawn0.refl _ | apply Drawn0.step)⟩
        ·rw [if_neg c10] at H
         have c10b0 : (a0 == 12) = false := beq_eq_false_iff_ne.mpr c10
         have c10b1 : (a0 != 12) = true := bne_iff_ne.mpr c10
         obtain rfl := Option.some.inj H
         go_wp2
         go_ret
         exact ⟨by first | rfl | (simp; done) | (simp [*]; done), by repeat (first | exact Drawn0.refl _ | apply Drawn0.step)⟩


/-! ### impl_isTermOf_1: function 107 -/
def impl_isTermOf_1.f (k : Nat) (l0 : List Int) (a1_0 : Int) (l1_1 : List Int) (l1_2 : List Int) (l1_3 : List Bool) : Option (Bool) := (impl_isTypeOf.f k a1_0 l1_1 l1_2 l1_3 l0).bind fun t872 => (some t872)
set_option maxHeartbeats 8000000 in
set_option maxRecDepth 100000 in
theorem impl_isTermOf_1.calls (k : Nat) (A0 : Option Addr) (c0 : Nat) (l0 : List Int) (g1 : Nat) (a1_0 : Int) (A1_1 : Option Addr) (c1_1 : Nat) (l1_1 : List Int) (A1_2 : Option Addr) (c1_2 : Nat) (l1_2 : List Int) (A1_3 : Option Addr) (c1_3 : Nat) (l1_3 : List Bool) (r : Bool) (w : World) (hr0 : Kd.C (Kd.int .i64) w A0 l0.length l0) (hc0 : l0.length ≤ c0) (hr1_1 : Kd.C (Kd.int .i64) w A1_1 l1_1.length l1_1) (hc1_1 : l1_1.length ≤ c1_1) (hr1_2 : Kd.C (Kd.int .i64) w A1_2 l1_2.length l1_2) (hc1_2 : l1_2.length ≤ c1_2) (hr1_3 : Kd.C Kd.bool w A1_3 l1_3.length l1_3) (hc1_3 : l1_3.length ≤ c1_3) (hb1 : w.heap[g1]? = some (.cells #[.int .i64 a1_0, .slice A1_1 l1_1.length c1_1, .slice A1_2 l1_2.length c1_2, .slice A1_3 l1_3.length c1_3] 37 (0, 0))) (h : impl_isTermOf_1.f k l0 a1_0 l1_1 l1_2 l1_3 = some r) :
  Calls Try.prog 107 #[.slice A0 l0.length c0, .pointer (some ⟨g1, 0, none⟩)] w fun e w' => e = .returned (.bool r) ∧ Below w.heap.size w w' := by
 have hu37 := Try.underlying37
 have HR0 := sd_ hr0
 have HC0 := sd_ hc0
 clear hr0 hc0
 have HR1_1 := sd_ hr1_1
 have HC1_1 := sd_ hc1_1
 clear hr1_1 hc1_1
 have HR1_2 := sd_ hr1_2
 have HC1_2 := sd_ hc1_2
 clear hr1_2 hc1_2
 have HR1_3 := sd_ hr1_3
 have HC1_3 := sd_ hc1_3
 clear hr1_3 hc1_3
 have BK1 := sd_ hb1
 clear hb1
 have HB := sd_ (Below.refl w.heap.size w)
 have H : ((impl_isTypeOf.f k a1_0 l1_1 l1_2 l1_3 l0).bind fun t872 => (some t872)) = some r := h
 clear h
 replace H := Option.bind_eq_some_iff.mp H
 obtain ⟨t872, A30, H⟩ := H
 try dsimp only at H
 have A3 := sd_ A30
 clear A30
 obtain rfl := Option.some.inj H
 have hcz4_0 : w.cell? ⟨g1, 0, none⟩ = some (.int .i64 a1_0) := (blk_cell BK1.out 0).trans rfl
 have hcz4_1 : w.cell? ⟨g1, 1, none⟩ = some (.slice A1_1 l1_1.length c1_1) := (blk_cell BK1.out 1).trans rfl
 have hcz4_2 : w.cell? ⟨g1, 2, none⟩ = some (.slice A1_2 l1_2.length c1_2) := (blk_cell BK1.out 2).trans rfl
 have hcz4_3 : w.cell? ⟨g1, 3, none⟩ = some (.slice A1_3 l1_3.length c1_3) := (blk_cell BK1.out 3).trans rfl
 have hfz4_0 := blk_frozen BK1.out 0
 have hfz4_1 := blk_frozen BK1.out 1
 have hfz4_2 := blk_frozen BK1.out 2
 have hfz4_3 := blk_frozen BK1.out 3
 go_enter Try.func107, Try.ntmps107
 go_wp2_with (first | ((with_reducible refine gate_callee (f := 63) rfl ?_); refine goesL_ (some 6) rfl rfl Try.func63 (by kernel_rfl) rfl #[.agg #[.int .i64 a1_0, .slice A1_1 l1_1.length c1_1, .slice A1_2 l1_2.length c1_2, .slice A1_3 l1_3.length c1_3], .slice A0 l0.length c0] rfl (by (try simp only [List.map_toArray, List.map_cons, List.map_nil]); first | done | rfl | (simp only [List.length_drop, List.length_take]; rfl)) ?_; (with_reducible refine (impl_isTypeOf.calls k a1_0 _ _ l1_1 _ _ l1_2 _ _ l1_3 _ _ l0 t872 _ ?side1 ?side2 ?side3 ?side4 ?side5 ?side6 ?side7 ?side8 A3.out).mono ?_); (case side1 => exact kp_ HR1_1.out); (case side2 => exact HC1_1.out); (case side3 => exact kp_ HR1_2.out); (case side4 => exact HC1_2.out); (case side5 => exact kp_ HR1_3.out); (case side6 => exact HC1_3.out); (case side7 => exact kp_ HR0.out); (case side8 => exact HC0.out); rintro e w5 ⟨rfl, hb⟩; refine ⟨_, rfl, ?_⟩; replace BK1 := sd_ (bb_ BK1.out hb); replace HB := sd_ (below_step (bw0_ HB.out) hb); (try clear hb); (try clear hb2); (try clear hk); (try clear hi)))
 go_ret
 exact ⟨an_, bw0_ HB.out⟩


/-! ### spec_l1Add: function 108 -/
def spec_l1Add.f (a0_0 : Int) (l0_1 : List Int) (l0_2 : List Int) (l0_3 : List Bool) (a1 : Int) (a2 : Int) : Option (Int) := if 0 ≤ (wrap64 ((wrap64 (a1 * a0_0)) + a2)) then (if (wrap64 ((wrap64 (a1 * a0_0)) + a2)) < (l0_1.length : Int) then (some (rd l0_1 (wrap64 ((wrap64 (a1 * a0_0)) + a2)))) else (none)) else (none)
set_option maxHeartbeats 8000000 in
set_option maxRecDepth 100000 in
theorem spec_l1Add.calls (a0_0 : Int) (A0_1 : Option Addr) (c0_1 : Nat) (l0_1 : List Int) (A0_2 : Option Addr) (c0_2 : Nat) (l0_2 : List Int) (A0_3 : Option Addr) (c0_3 : Nat) (l0_3 : List Bool) (a1 : Int) (a2 : Int) (r : Int) (w : World) (hr0_1 : Kd.C (Kd.int .i64) w A0_1 l0_1.length l0_1) (hc0_1 : l0_1.length ≤ c0_1) (hr0_2 : Kd.C (Kd.int .i64) w A0_2 l0_2.length l0_2) (hc0_2 : l0_2.length ≤ c0_2) (hr0_3 : Kd.C Kd.bool w A0_3 l0_3.length l0_3) (hc0_3 : l0_3.length ≤ c0_3) (h : spec_l1Add.f a0_0 l0_1 l0_2 l0_3 a1 a2 = some r) :
  Calls Try.prog 108 #[.agg #[.int .i64 a0_0, .slice A0_1 l0_1.length c0_1, .slice A0_2 l0_2.length c0_2, .slice A0_3 l0_3.length c0_3], .int .i64 a1, .int .i64 a2] w fun e w' => e = .returned (.int .i64 r) ∧ Below w.heap.size w w' := by
 have hu37 := Try.underlying37
 have HR0_1 := sd_ hr0_1
 have HC0_1 := sd_ hc0_1
 clear hr0_1 hc0_1
 have HR0_2 := sd_ hr0_2
 have HC0_2 := sd_ hc0_2
 clear hr0_2 hc0_2
 have HR0_3 := sd_ hr0_3
 have HC0_3 := sd_ hc0_3
 clear hr0_3 hc0_3
 have HB := sd_ (Below.refl w.heap.size w)
 have H : (if 0 ≤ (wrap64 ((wrap64 (a1 * a0_0)) + a2)) then (if (wrap64 ((wrap64 (a1 * a0_0)) + a2)) < (l0_1.length : Int) then (some (rd l0_1 (wrap64 ((wrap64 (a1 * a0_0)) + a2)))) else (none)) else (none)) = some r := h
 clear h
 obtain ⟨ji4, hji4⟩ : ∃ j_ : Int, (wrap64 ((wrap64 (a1 * a0_0)) + a2)) = j_ := ⟨_, rfl⟩
 replace H : (if 0 ≤ (ji4) then (if (ji4) < (l0_1.length : Int) then (some (rd l0_1 (ji4))) else (none)) else (none)) = some r := by first | (rw [hji4] at H; exact H) | (simp only [hji4] at H ⊢; exact H)
 have hji4w : (IntKind.i64.wrap ((wrap64 (a1 * a0_0)) + a2)) = ji4 := (i64_w _).trans hji4
 by_cases c5 : 0 ≤ (ji4)
 ·rw [if_pos c5] at H
  have c5b0 : decide (0 ≤ (ji4)) = true := decide_eq_true c5
  clear c5
  by_cases c6 : (ji4) < (l0_1.length : Int)
  ·rw [if_pos c6] at H
   have c6b0 : decide ((ji4) < (l0_1.length : Int)) = true := decide_eq_true c6
   clear c6
   obtain rfl := Option.some.inj H
   go_enter Try.func108, Try.ntmps108
   go_wp2_with (first | ((with_reducible refine gate_dst (N := 3) rfl ?_); refine box_event ?hg (N := 3) ?hd (cs := #[.int .i64 a0_0, .slice A0_1 l0_1.length c0_1, .slice A0_2 l0_2.length c0_2, .slice A0_3 l0_3.length c0_3]) (t := 37) ?hr ?_; (case hd => rfl); (case hg => rfl); (case hr => first | (go_simp; done) | (go_simp; rfl)); intro gb263 hg w7 hbox hb; have BK263 := sd_ (hbox); have GW263 := sd_ ((by rw [hg]; exact (below_size (bw0_ HB.out)) : w.heap.size ≤ gb263)); have GE263 := sd_ ((by rw [hg]; exact (below_size (bw0_ HB.out)) : w.heap.size ≤ gb263)); replace HB := sd_ (below_step (bw0_ HB.out) hb); clear hb hbox hg; have hcz8_0 : w7.cell? ⟨gb263, 0, none⟩ = some (.int .i64 a0_0) := (blk_cell BK263.out 0).trans rfl; have hcz8_1 : w7.cell? ⟨gb263, 1, none⟩ = some (.slice A0_1 l0_1.length c0_1) := (blk_cell BK263.out 1).trans rfl; have hcz8_2 : w7.cell? ⟨gb263, 2, none⟩ = some (.slice A0_2 l0_2.length c0_2) := (blk_cell BK263.out 2).trans rfl; have hcz8_3 : w7.cell? ⟨gb263, 3, none⟩ = some (.slice A0_3 l0_3.length c0_3) := (blk_cell BK263.out 3).trans rfl; have hfz8_0 := blk_frozen BK263.out 0; have hfz8_1 := blk_frozen BK263.out 1; have hfz8_2 := blk_frozen BK263.out 2; have hfz8_3 := blk_frozen BK263.out 3; have p264 : 0 ≤ ((ji4) : Int) := of_decide_eq_true (by first | (with_reducible assumption) | assumption); have q264 : (ji4) < (l0_1.length : Int) := of_decide_eq_true (by first | (with_reducible assumption) | assumption); obtain ⟨ad264, e264, hx264_0⟩ := Kd.at_int HR0_1.out (ji4) p264 q264; cases e264; replace hx264_0 := (HB.out.cell (World.block_lt_of_cell? w _ hx264_0)).trans hx264_0; replace p264 := eq_true p264; replace q264 := eq_true q264))
   go_ret
   exact ⟨by first | rfl | (simp [errW_none, errW_some] <;> rfl) | (simp only [← hji4]; first | rfl | (simp [errW_none, errW_some] <;> rfl)) | (simp [*, errW_none, errW_some] <;> rfl), bw1_ HB.out GE263.out⟩
  ·rw [if_neg c6] at H
   exact absurd H (by simp)
 ·rw [if_neg c5] at H
  exact absurd H (by simp)


/-! ### spec_l1Mul: function 109 -/
def spec_l1Mul.f (a0_0 : Int) (l0_1 : List Int) (l0_2 : List Int) (l0_3 : List Bool) (a1 : Int) (a2 : Int) : Option (Int) := if 0 ≤ (wrap64 ((wrap64 (a1 * a0_0)) + a2)) then (if (wrap64 ((wrap64 (a1 * a0_0)) + a2)) < (l0_2.length : Int) then (some (rd l0_2 (wrap64 ((wrap64 (a1 * a0_0)) + a2)))) else (none)) else (none)
set_option maxHeartbeats 8000000 in
set_option maxRecDepth 100000 in
theorem spec_l1Mul.calls (a0_0 : Int) (A0_1 : Option Addr) (c0_1 : Nat) (l0_1 : List Int) (A0_2 : Option Addr) (c0_2 : Nat) (l0_2 : List Int) (A0_3 : Option Addr) (c0_3 : Nat) (l0_3 : List Bool) (a1 : Int) (a2 : Int) (r : Int) (w : World) (hr0_1 : Kd.C (Kd.int .i64) w A0_1 l0_1.length l0_1) (hc0_1 : l0_1.length ≤ c0_1) (hr0_2 : Kd.C (Kd.int .i64) w A0_2 l0_2.length l0_2) (hc0_2 : l0_2.length ≤ c0_2) (hr0_3 : Kd.C Kd.bool w A0_3 l0_3.length l0_3) (hc0_3 : l0_3.length ≤ c0_3) (h : spec_l1Mul.f a0_0 l0_1 l0_2 l0_3 a1 a2 = some r) :
  Calls Try.prog 109 #[.agg #[.int .i64 a0_0, .slice A0_1 l0_1.length c0_1, .slice A0_2 l0_2.length c0_2, .slice A0_3 l0_3.length c0_3], .int .i64 a1, .int .i64 a2] w fun e w' => e = .returned (.int .i64 r) ∧ Below w.heap.size w w' := by
 have hu37 := Try.underlying37
 have HR0_1 := sd_ hr0_1
 have HC0_1 := sd_ hc0_1
 clear hr0_1 hc0_1
 have HR0_2 := sd_ hr0_2
 have HC0_2 := sd_ hc0_2
 clear hr0_2 hc0_2
 have HR0_3 := sd_ hr0_3
 have HC0_3 := sd_ hc0_3
 clear hr0_3 hc0_3
 have HB := sd_ (Below.refl w.heap.size w)
 have H : (if 0 ≤ (wrap64 ((wrap64 (a1 * a0_0)) + a2)) then (if (wrap64 ((wrap64 (a1 * a0_0)) + a2)) < (l0_2.length : Int) then (some (rd l0_2 (wrap64 ((wrap64 (a1 * a0_0)) + a2)))) else (none)) else (none)) = some r := h
 clear h
 obtain ⟨ji4, hji4⟩ : ∃ j_ : Int, (wrap64 ((wrap64 (a1 * a0_0)) + a2)) = j_ := ⟨_, rfl⟩
 replace H : (if 0 ≤ (ji4) then (if (ji4) < (l0_2.length : Int) then (some (rd l0_2 (ji4))) else (none)) else (none)) = some r := by first | (rw [hji4] at H; exact H) | (simp only [hji4] at H ⊢; exact H)
 have hji4w : (IntKind.i64.wrap ((wrap64 (a1 * a0_0)) + a2)) = ji4 := (i64_w _).trans hji4
 by_cases c5 : 0 ≤ (ji4)
 ·rw [if_pos c5] at H
  have c5b0 : decide (0 ≤ (ji4)) = true := decide_eq_true c5
  clear c5
  by_cases c6 : (ji4) < (l0_2.length : Int)
  ·rw [if_pos c6] at H
   have c6b0 : decide ((ji4) < (l0_2.length : Int)) = true := decide_eq_true c6
   clear c6
   obtain rfl := Option.some.inj H
   go_enter Try.func109, Try.ntmps109
   go_wp2_with (first | ((with_reducible refine gate_dst (N := 3) rfl ?_); refine box_event ?hg (N := 3) ?hd (cs := #[.int .i64 a0_0, .slice A0_1 l0_1.length c0_1, .slice A0_2 l0_2.length c0_2, .slice A0_3 l0_3.length c0_3]) (t := 37) ?hr ?_; (case hd => rfl); (case hg => rfl); (case hr => first | (go_simp; done) | (go_simp; rfl)); intro gb265 hg w7 hbox hb; have BK265 := sd_ (hbox); have GW265 := sd_ ((by rw [hg]; exact (below_size (bw0_ HB.out)) : w.heap.size ≤ gb265)); have GE265 := sd_ ((by rw [hg]; exact (below_size (bw0_ HB.out)) : w.heap.size ≤ gb265)); replace HB := sd_ (below_step (bw0_ HB.out) hb); clear hb hbox hg; have hcz8_0 : w7.cell? ⟨gb265, 0, none⟩ = some (.int .i64 a0_0) := (blk_cell BK265.out 0).trans rfl; have hcz8_1 : w7.cell? ⟨gb265, 1, none⟩ = some (.slice A0_1 l0_1.length c0_1) := (blk_cell BK265.out 1).trans rfl; have hcz8_2 : w7.cell? ⟨gb265, 2, none⟩ = some (.slice A0_2 l0_2.length c0_2) := (blk_cell BK265.out 2).trans rfl; have hcz8_3 : w7.cell? ⟨gb265, 3, none⟩ = some (.slice A0_3 l0_3.length c0_3) := (blk_cell BK265.out 3).trans rfl; have hfz8_0 := blk_frozen BK265.out 0; have hfz8_1 := blk_frozen BK265.out 1; have hfz8_2 := blk_frozen BK265.out 2; have hfz8_3 := blk_frozen BK265.out 3; have p266 : 0 ≤ ((ji4) : Int) := of_decide_eq_true (by first | (with_reducible assumption) | assumption); have q266 : (ji4) < (l0_2.length : Int) := of_decide_eq_true (by first | (with_reducible assumption) | assumption); obtain ⟨ad266, e266, hx266_0⟩ := Kd.at_int HR0_2.out (ji4) p266 q266; cases e266; replace hx266_0 := (HB.out.cell (World.block_lt_of_cell? w _ hx266_0)).trans hx266_0; replace p266 := eq_true p266; replace q266 := eq_true q266))
   go_ret
   exact ⟨by first | rfl | (simp [errW_none, errW_some] <;> rfl) | (simp only [← hji4]; first | rfl | (simp [errW_none, errW_some] <;> rfl)) | (simp [*, errW_none, errW_some] <;> rfl), bw1_ HB.out GE265.out⟩
  ·rw [if_neg c6] at H
   exact absurd H (by simp)
 ·rw [if_neg c5] at H
  exact absurd H (by simp)


/-! ### spec_l1Le: function 110 -/
def spec_l1Le.f (a0_0 : Int) (l0_1 : List Int) (l0_2 : List Int) (l0_3 : List Bool) (a1 : Int) (a2 : Int) : Option (Bool) := if 0 ≤ (wrap64 ((wrap64 (a1 * a0_0)) + a2)) then (if (wrap64 ((wrap64 (a1 * a0_0)) + a2)) < (l0_3.length : Int) then (some (rdOf false l0_3 (wrap64 ((wrap64 (a1 * a0_0)) + a2)))) else (none)) else (none)
set_option maxHeartbeats 8000000 in
set_option maxRecDepth 100000 in
theorem spec_l1Le.calls (a0_0 : Int) (A0_1 : Option Addr) (c0_1 : Nat) (l0_1 : List Int) (A0_2 : Option Addr) (c0_2 : Nat) (l0_2 : List Int) (A0_3 : Option Addr) (c0_3 : Nat) (l0_3 : List Bool) (a1 : Int) (a2 : Int) (r : Bool) (w : World) (hr0_1 : Kd.C (Kd.int .i64) w A0_1 l0_1.length l0_1) (hc0_1 : l0_1.length ≤ c0_1) (hr0_2 : Kd.C (Kd.int .i64) w A0_2 l0_2.length l0_2) (hc0_2 : l0_2.length ≤ c0_2) (hr0_3 : Kd.C Kd.bool w A0_3 l0_3.length l0_3) (hc0_3 : l0_3.length ≤ c0_3) (h : spec_l1Le.f a0_0 l0_1 l0_2 l0_3 a1 a2 = some r) :
  Calls Try.prog 110 #[.agg #[.int .i64 a0_0, .slice A0_1 l0_1.length c0_1, .slice A0_2 l0_2.length c0_2, .slice A0_3 l0_3.length c0_3], .int .i64 a1, .int .i64 a2] w fun e w' => e = .returned (.bool r) ∧ Below w.heap.size w w' := by
 have hu37 := Try.underlying37
 have HR0_1 := sd_ hr0_1
 have HC0_1 := sd_ hc0_1
 clear hr0_1 hc0_1
 have HR0_2 := sd_ hr0_2
 have HC0_2 := sd_ hc0_2
 clear hr0_2 hc0_2
 have HR0_3 := sd_ hr0_3
 have HC0_3 := sd_ hc0_3
 clear hr0_3 hc0_3
 have HB := sd_ (Below.refl w.heap.size w)
 have H : (if 0 ≤ (wrap64 ((wrap64 (a1 * a0_0)) + a2)) then (if (wrap64 ((wrap64 (a1 * a0_0)) + a2)) < (l0_3.length : Int) then (some (rdOf false l0_3 (wrap64 ((wrap64 (a1 * a0_0)) + a2)))) else (none)) else (none)) = some r := h
 clear h
 obtain ⟨ji4, hji4⟩ : ∃ j_ : Int, (wrap64 ((wrap64 (a1 * a0_0)) + a2)) = j_ := ⟨_, rfl⟩
 replace H : (if 0 ≤ (ji4) then (if (ji4) < (l0_3.length : Int) then (some (rdOf false l0_3 (ji4))) else (none)) else (none)) = some r := by first | (rw [hji4] at H; exact H) | (simp only [hji4] at H ⊢; exact H)
 have hji4w : (IntKind.i64.wrap ((wrap64 (a1 * a0_0)) + a2)) = ji4 := (i64_w _).trans hji4
 by_cases c5 : 0 ≤ (ji4)
 ·rw [if_pos c5] at H
  have c5b0 : decide (0 ≤ (ji4)) = true := decide_eq_true c5
  clear c5
  by_cases c6 : (ji4) < (l0_3.length : Int)
  ·rw [if_pos c6] at H
   have c6b0 : decide ((ji4) < (l0_3.length : Int)) = true := decide_eq_true c6
   clear c6
   obtain rfl := Option.some.inj H
   go_enter Try.func110, Try.ntmps110
   go_wp2_with (first | ((with_reducible refine gate_dst (N := 3) rfl ?_); refine box_event ?hg (N := 3) ?hd (cs := #[.int .i64 a0_0, .slice A0_1 l0_1.length c0_1, .slice A0_2 l0_2.length c0_2, .slice A0_3 l0_3.length c0_3]) (t := 37) ?hr ?_; (case hd => rfl); (case hg => rfl); (case hr => first | (go_simp; done) | (go_simp; rfl)); intro gb267 hg w7 hbox hb; have BK267 := sd_ (hbox); have GW267 := sd_ ((by rw [hg]; exact (below_size (bw0_ HB.out)) : w.heap.size ≤ gb267)); have GE267 := sd_ ((by rw [hg]; exact (below_size (bw0_ HB.out)) : w.heap.size ≤ gb267)); replace HB := sd_ (below_step (bw0_ HB.out) hb); clear hb hbox hg; have hcz8_0 : w7.cell? ⟨gb267, 0, none⟩ = some (.int .i64 a0_0) := (blk_cell BK267.out 0).trans rfl; have hcz8_1 : w7.cell? ⟨gb267, 1, none⟩ = some (.slice A0_1 l0_1.length c0_1) := (blk_cell BK267.out 1).trans rfl; have hcz8_2 : w7.cell? ⟨gb267, 2, none⟩ = some (.slice A0_2 l0_2.length c0_2) := (blk_cell BK267.out 2).trans rfl; have hcz8_3 : w7.cell? ⟨gb267, 3, none⟩ = some (.slice A0_3 l0_3.length c0_3) := (blk_cell BK267.out 3).trans rfl; have hfz8_0 := blk_frozen BK267.out 0; have hfz8_1 := blk_frozen BK267.out 1; have hfz8_2 := blk_frozen BK267.out 2; have hfz8_3 := blk_frozen BK267.out 3; have p268 : 0 ≤ ((ji4) : Int) := of_decide_eq_true (by first | (with_reducible assumption) | assumption); have q268 : (ji4) < (l0_3.length : Int) := of_decide_eq_true (by first | (with_reducible assumption) | assumption); obtain ⟨ad268, e268, hx268_0⟩ := Kd.at_bool HR0_3.out (ji4) p268 q268; cases e268; replace hx268_0 := (HB.out.cell (World.block_lt_of_cell? w _ hx268_0)).trans hx268_0; replace p268 := eq_true p268; replace q268 := eq_true q268))
   go_ret
   exact ⟨by first | rfl | (simp [errW_none, errW_some] <;> rfl) | (simp only [← hji4]; first | rfl | (simp [errW_none, errW_some] <;> rfl)) | (simp [*, errW_none, errW_some] <;> rfl), bw1_ HB.out GE267.out⟩
  ·rw [if_neg c6] at H
   exact absurd H (by simp)
 ·rw [if_neg c5] at H
  exact absurd H (by simp)


/-! ### spec_l2Many: function 113 -/
def spec_l2Many.f (a0 : Int) : Option (Int) := (spec_l1In.f a0 0 12).bind fun t551 => (if t551 = true then ((some (([0, 0, 2, 3, 2, 2, 1, 1, 3, 1, 2, 1, 2] : List Int) : List Int)).bind fun y552 => (if 0 ≤ a0 then (if a0 < (y552.length : Int) then (some (rd y552 a0)) else (none)) else (none))) else (some (-1)))
set_option maxHeartbeats 8000000 in
set_option maxRecDepth 100000 in
theorem spec_l2Many.calls (a0 : Int) (r : Int) (w : World) (h : spec_l2Many.f a0 = some r) :
  Calls Try.prog 113 #[.int .i64 a0] w fun e w' => e = .returned (.int .i64 r) ∧ Below w.heap.size w w' := by
 have HB := sd_ (Below.refl w.heap.size w)
 have H : ((spec_l1In.f a0 0 12).bind fun t551 => (if t551 = true then ((some (([0, 0, 2, 3, 2, 2, 1, 1, 3, 1, 2, 1, 2] : List Int) : List Int)).bind fun y552 => (if 0 ≤ a0 then (if a0 < (y552.length : Int) then (some (rd y552 a0)) else (none)) else (none))) else (some (-1)))) = some r := h
 clear h
 replace H := Option.bind_eq_some_iff.mp H
 obtain ⟨t551, A20, H⟩ := H
 try dsimp only at H
 have A2 := sd_ A20
 clear A20
 by_cases c3 : t551 = true
 ·subst c3
  have H1 : ((some (([0, 0, 2, 3, 2, 2, 1, 1, 3, 1, 2, 1, 2] : List Int) : List Int)).bind fun y552 => (if 0 ≤ a0 then (if a0 < (y552.length : Int) then (some (rd y552 a0)) else (none)) else (none))) = some r := by rw [if_pos rfl] at H; exact H
  clear H
  have H := H1
  clear H1
  obtain ⟨y552, hy552⟩ : ∃ y_ : List Int, y_ = (([0, 0, 2, 3, 2, 2, 1, 1, 3, 1, 2, 1, 2] : List Int)) := ⟨_, rfl⟩
  replace H : (if 0 ≤ a0 then (if a0 < (y552.length : Int) then (some (rd y552 a0)) else (none)) else (none)) = some r := by first | (rw [hy552]; with_reducible exact H) | (have H2_ := (Option.bind_some _ _).symm.trans H; rw [hy552]; with_reducible exact H2_) | (have H2_ := (Option.bind_some _ _).symm.trans H; with_reducible exact H2_) | with_reducible exact H | (rw [hy552]; exact H) | exact H
  have Ny552 := sd_ hy552
  clear hy552
  by_cases c4 : 0 ≤ a0
  ·rw [if_pos c4] at H
   have c4b0 : decide (0 ≤ a0) = true := decide_eq_true c4
   clear c4
   by_cases c5 : a0 < (y552.length : Int)
   ·rw [if_pos c5] at H
    have c5b0 : decide (a0 < (y552.length : Int)) = true := decide_eq_true c5
    clear c5
    obtain rfl := Option.some.inj H
    go_enter Try.func113, Try.ntmps113
    go_wp2_with (first | ((with_reducible refine gate_callee (f := 80) rfl ?_); refine goesL_ (some 4) rfl rfl Try.func80 (by kernel_rfl) rfl #[.int .i64 a0, .int .i64 0, .int .i64 12] rfl (by (try simp only [List.map_toArray, List.map_cons, List.map_nil]); first | done | rfl | (simp only [List.length_drop, List.length_take]; rfl)) ?_; (with_reducible refine (spec_l1In.calls a0 0 12 true _ A2.out).mono ?_); rintro e w' ⟨rfl, ⟨nd, rfl⟩⟩; refine ⟨_, rfl, ?_⟩) | ((with_reducible refine gate_dst (N := 6) rfl ?_); refine Kd.R_lit (Kd.int .i64) _ 3 ?hg (N := 6) ?hd (xs := ([0, 0, 2, 3, 2, 2, 1, 1, 3, 1, 2, 1, 2] : List Int)) (inner := [.int .i64 0, .int .i64 0, .int .i64 2, .int .i64 3, .int .i64 2, .int .i64 2, .int .i64 1, .int .i64 1, .int .i64 3, .int .i64 1, .int .i64 2, .int .i64 1, .int .i64 2]) (ok := fun _ => True) (okp := fun _ => True) ?hr ?hp (fun _ hk => hk) trivial (Below.refl _ _) (Nat.le_refl _) (by simp) ?_; (case hd => rfl); (case hg => rfl); (case hr => first | (go_simp; done) | (go_simp; rfl)); (case hp => exact (Reps.one (show Kd.M (Kd.int .i64) _ _ _ 0 [.int .i64 0] from rfl) (Reps.one (show Kd.M (Kd.int .i64) _ _ _ 0 [.int .i64 0] from rfl) (Reps.one (show Kd.M (Kd.int .i64) _ _ _ 2 [.int .i64 2] from rfl) (Reps.one (show Kd.M (Kd.int .i64) _ _ _ 3 [.int .i64 3] from rfl) (Reps.one (show Kd.M (Kd.int .i64) _ _ _ 2 [.int .i64 2] from rfl) (Reps.one (show Kd.M (Kd.int .i64) _ _ _ 2 [.int .i64 2] from rfl) (Reps.one (show Kd.M (Kd.int .i64) _ _ _ 1 [.int .i64 1] from rfl) (Reps.one (show Kd.M (Kd.int .i64) _ _ _ 1 [.int .i64 1] from rfl) (Reps.one (show Kd.M (Kd.int .i64) _ _ _ 3 [.int .i64 3] from rfl) (Reps.one (show Kd.M (Kd.int .i64) _ _ _ 1 [.int .i64 1] from rfl) (Reps.one (show Kd.M (Kd.int .i64) _ _ _ 2 [.int .i64 2] from rfl) (Reps.one (show Kd.M (Kd.int .i64) _ _ _ 1 [.int .i64 1] from rfl) (Reps.one (show Kd.M (Kd.int .i64) _ _ _ 2 [.int .i64 2] from rfl) (Reps.none _ _))))))))))))))); intro v553 w6 ho7 hb hg_ hnew_; clear hg_ hnew_; (first | rw [← Ny552.out] at ho7 | (simp only [Int.reduceToNat] at ho7; rw [← Ny552.out] at ho7)); have HO554 := sd_ (Kd.R_lower ho7 (below_size (bw0_ HB.out))); replace HB := sd_ (below_step (bw0_ HB.out) hb); clear hb ho7; obtain ⟨Ao8, co8, eo8⟩ := Kd.R_slice HO554.out; subst eo8; have p555 : 0 ≤ (a0 : Int) := of_decide_eq_true (by first | (with_reducible assumption) | assumption); have q555 : a0 < (y552.length : Int) := of_decide_eq_true (by first | (with_reducible assumption) | assumption); obtain ⟨ad555, e555, hx555_0⟩ := Kd.at_int (Kd.R_reads' HO554.out).2.2 a0 p555 q555; cases e555; replace p555 := eq_true p555; replace q555 := eq_true q555))
    go_ret
    exact ⟨an_, bw0_ HB.out⟩
   ·rw [if_neg c5] at H
    exact absurd H (by simp)
  ·rw [if_neg c4] at H
   exact absurd H (by simp)
 ·replace c3 := Bool.eq_false_iff.mpr c3
  subst c3
  have H1 : (some (-1)) = some r := by rw [if_neg (show ¬ (false = true) by decide)] at H; exact H
  clear H
  have H := H1
  clear H1
  obtain rfl := Option.some.inj H
  go_enter Try.func113, Try.ntmps113
  go_wp2_with (first | ((with_reducible refine gate_callee (f := 80) rfl ?_); refine goesL_ (some 4) rfl rfl Try.func80 (by kernel_rfl) rfl #[.int .i64 a0, .int .i64 0, .int .i64 12] rfl (by (try simp only [List.map_toArray, List.map_cons, List.map_nil]); first | done | rfl | (simp only [List.length_drop, List.length_take]; rfl)) ?_; (with_reducible refine (spec_l1In.calls a0 0 12 false _ A2.out).mono ?_); rintro e w' ⟨rfl, ⟨nd, rfl⟩⟩; refine ⟨_, rfl, ?_⟩))
  go_ret
  exact ⟨an_, bw0_ HB.out⟩

end Go.Proofs.Ytnokgkhkmnldeaa.P
end
