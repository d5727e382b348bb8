-- Several texts in one (wip/tools/merge.py).
import Derived.Test.YtipfkicndjddgaaP0
import Derived.Test.YtipfkicndjddgaaM2
import Derived.Test.YtipfkicndjddgaaM7
import Derived.Test.YtipfkicndjddgaaM4
section
namespace Go.Proofs.Ytipfkicndjddgaa.P
open Go.RowKit Go.Proofs.YtipfkicndjddgaaW.PrintWords Go.Proofs.YtipfkicndjddgaaW.PrintLast Go.Proofs.YtipfkicndjddgaaW.PrintMore
attribute [local go_sem] max2_int min2_int max_two min_two max_three min_three max_four min_four   -- for this text's walks alone
set_option linter.unusedVariables false
set_option linter.unusedSimpArgs false

/-! ### impl_shape: function 122 -/
def impl_shape.f (a0 : Int) : Option (Int × Int) := (impl_within.f a0 0 2).bind fun t290 => (if t290 = true then (some (a0, (-1))) else ((impl_within.f a0 3 18).bind fun t291 => (if t291 = true then (some (3, wrap64 (a0 - 3))) else ((impl_within.f a0 19 34).bind fun t292 => (if t292 = true then (some (4, wrap64 (a0 - 19))) else (if a0 = 35 then (some (3, (-1))) else (if a0 = 36 then (some (4, (-1))) else (some (5, (-1))))))))))
set_option maxHeartbeats 8000000 in
set_option maxRecDepth 100000 in
theorem impl_shape.calls (a0 : Int) (r1 : Int) (r2 : Int) (w : World) (h : impl_shape.f a0 = some (r1, r2)) :
  Calls Try.prog 122 #[.int .i64 a0] w fun e w' => e = .returned (.tuple #[.int .i64 r1, .int .i64 r2]) ∧ Drawn0 w w' := by
 have H : ((impl_within.f a0 0 2).bind fun t290 => (if t290 = true then (some (a0, (-1))) else ((impl_within.f a0 3 18).bind fun t291 => (if t291 = true then (some (3, wrap64 (a0 - 3))) else ((impl_within.f a0 19 34).bind fun t292 => (if t292 = true then (some (4, wrap64 (a0 - 19))) else (if a0 = 35 then (some (3, (-1))) else (if a0 = 36 then (some (4, (-1))) else (some (5, (-1))))))))))) = some (r1, r2) := h
 clear h
 replace H := Option.bind_eq_some_iff.mp H
 obtain ⟨t290, A20, H⟩ := H
 try dsimp only at H
 have A2 := sd_ A20
 clear A20
 by_cases c3 : t290 = true
 ·subst c3
  have H1 : (some (a0, (-1))) = some (r1, r2) := by rw [if_pos rfl] at H; exact H
  clear H
  have H := H1
  clear H1
  simp only [Option.some.injEq, Prod.mk.injEq] at H
  obtain ⟨rfl, rfl⟩ := H
  go_enter Try.func122, Try.ntmps122
  go_wp2_with (first | ((with_reducible refine gate_callee (f := 104) rfl ?_); refine goesL_ (some 6) rfl rfl Try.func104 (by kernel_rfl) rfl #[.int .i64 a0, .int .i64 0, .int .i64 2] rfl la_ ?_; (with_reducible refine (impl_within.calls a0 0 2 true _ A2.out).mono ?_); rintro e w' ⟨rfl, ⟨nd, rfl⟩⟩; refine ⟨_, rfl, ?_⟩))
  go_ret2
  exact ⟨by first | rfl | (simp; done) | (simp [*]; done), by repeat (first | exact Drawn0.refl _ | apply Drawn0.step)⟩
 replace c3 := Bool.eq_false_iff.mpr c3
 subst c3
 have H1 : ((impl_within.f a0 3 18).bind fun t291 => (if t291 = true then (some (3, wrap64 (a0 - 3))) else ((impl_within.f a0 19 34).bind fun t292 => (if t292 = true then (some (4, wrap64 (a0 - 19))) else (if a0 = 35 then (some (3, (-1))) else (if a0 = 36 then (some (4, (-1))) else (some (5, (-1))))))))) = some (r1, r2) := by rw [if_neg (show ¬ (false = true) by decide)] at H; exact H
 clear H
 have H := H1
 clear H1
 replace H := Option.bind_eq_some_iff.mp H
 obtain ⟨t291, A40, H⟩ := H
 try dsimp only at H
 have A4 := sd_ A40
 clear A40
 by_cases c5 : t291 = true
 ·subst c5
  have H1 : (some (3, wrap64 (a0 - 3))) = some (r1, r2) := by rw [if_pos rfl] at H; exact H
  clear H
  have H := H1
  clear H1
  simp only [Option.some.injEq, Prod.mk.injEq] at H
  obtain ⟨rfl, rfl⟩ := H
  go_enter Try.func122, Try.ntmps122
  go_wp2_with (first | ((with_reducible refine gate_callee (f := 104) rfl ?_); refine goesL_ (some 6) rfl rfl Try.func104 (by kernel_rfl) rfl #[.int .i64 a0, .int .i64 0, .int .i64 2] rfl la_ ?_; (with_reducible refine (impl_within.calls a0 0 2 false _ A2.out).mono ?_); rintro e w' ⟨rfl, ⟨nd, rfl⟩⟩; refine ⟨_, rfl, ?_⟩) | ((with_reducible refine gate_callee (f := 104) rfl ?_); refine goesL_ (some 10) rfl rfl Try.func104 (by kernel_rfl) rfl #[.int .i64 a0, .int .i64 3, .int .i64 18] rfl la_ ?_; (with_reducible refine (impl_within.calls a0 3 18 true _ A4.out).mono ?_); rintro e w' ⟨rfl, ⟨nd, rfl⟩⟩; refine ⟨_, rfl, ?_⟩))
  go_ret2
  exact ⟨by first | rfl | (simp; done) | (simp [*]; done), by repeat (first | exact Drawn0.refl _ | apply Drawn0.step)⟩
 replace c5 := Bool.eq_false_iff.mpr c5
 subst c5
 have H1 : ((impl_within.f a0 19 34).bind fun t292 => (if t292 = true then (some (4, wrap64 (a0 - 19))) else (if a0 = 35 then (some (3, (-1))) else (if a0 = 36 then (some (4, (-1))) else (some (5, (-1))))))) = some (r1, r2) := by rw [if_neg (show ¬ (false = true) by decide)] at H; exact H
 clear H
 have H := H1
 clear H1
 replace H := Option.bind_eq_some_iff.mp H
 obtain ⟨t292, A60, H⟩ := H
 try dsimp only at H
 have A6 := sd_ A60
 clear A60
 by_cases c7 : t292 = true
 ·subst c7
  have H1 : (some (4, wrap64 (a0 - 19))) = some (r1, r2) := by rw [if_pos rfl] at H; exact H
  clear H
  have H := H1
  clear H1
  simp only [Option.some.injEq, Prod.mk.injEq] at H
  obtain ⟨rfl, rfl⟩ := H
  go_enter Try.func122, Try.ntmps122
  go_wp2_with (first | ((with_reducible refine gate_callee (f := 104) rfl ?_); refine goesL_ (some 6) rfl rfl Try.func104 (by kernel_rfl) rfl #[.int .i64 a0, .int .i64 0, .int .i64 2] rfl la_ ?_; (with_reducible refine (impl_within.calls a0 0 2 false _ A2.out).mono ?_); rintro e w' ⟨rfl, ⟨nd, rfl⟩⟩; refine ⟨_, rfl, ?_⟩) | ((with_reducible refine gate_callee (f := 104) rfl ?_); refine goesL_ (some 10) rfl rfl Try.func104 (by kernel_rfl) rfl #[.int .i64 a0, .int .i64 3, .int .i64 18] rfl la_ ?_; (with_reducible refine (impl_within.calls a0 3 18 false _ A4.out).mono ?_); rintro e w' ⟨rfl, ⟨nd, rfl⟩⟩; refine ⟨_, rfl, ?_⟩) | ((with_reducible refine gate_callee (f := 104) rfl ?_); refine goesL_ (some 15) rfl rfl Try.func104 (by kernel_rfl) rfl #[.int .i64 a0, .int .i64 19, .int .i64 34] rfl la_ ?_; (with_reducible refine (impl_within.calls a0 19 34 true _ A6.out).mono ?_); rintro e w' ⟨rfl, ⟨nd, rfl⟩⟩; refine ⟨_, rfl, ?_⟩))
  go_ret2
  exact ⟨by first | rfl | (simp; done) | (simp [*]; done), by repeat (first | exact Drawn0.refl _ | apply Drawn0.step)⟩
 replace c7 := Bool.eq_false_iff.mpr c7
 subst c7
 have H1 : (if a0 = 35 then (some (3, (-1))) else (if a0 = 36 then (some (4, (-1))) else (some (5, (-1))))) = some (r1, r2) := by rw [if_neg (show ¬ (false = true) by decide)] at H; exact H
 clear H
 have H := H1
 clear H1
 by_cases c8 : a0 = 35
 ·rw [if_pos c8] at H
  have c8b0 : (a0 == 35) = true := beq_iff_eq.mpr c8
  have c8b1 : (a0 != 35) = false := bne_eq_false_iff_eq.mpr c8
  clear c8
  simp only [Option.some.injEq, Prod.mk.injEq] at H
  obtain ⟨rfl, rfl⟩ := H
  go_enter Try.func122, Try.ntmps122
  go_wp2_with (first | ((with_reducible refine gate_callee (f := 104) rfl ?_); refine goesL_ (some 6) rfl rfl Try.func104 (by kernel_rfl) rfl #[.int .i64 a0, .int .i64 0, .int .i64 2] rfl la_ ?_; (with_reducible refine (impl_within.calls a0 0 2 false _ A2.out).mono ?_); rintro e w' ⟨rfl, ⟨nd, rfl⟩⟩; refine ⟨_, rfl, ?_⟩) | ((with_reducible refine gate_callee (f := 104) rfl ?_); refine goesL_ (some 10) rfl rfl Try.func104 (by kernel_rfl) rfl #[.int .i64 a0, .int .i64 3, .int .i64 18] rfl la_ ?_; (with_reducible refine (impl_within.calls a0 3 18 false _ A4.out).mono ?_); rintro e w' ⟨rfl, ⟨nd, rfl⟩⟩; refine ⟨_, rfl, ?_⟩) | ((with_reducible refine gate_callee (f := 104) rfl ?_); refine goesL_ (some 15) rfl rfl Try.func104 (by kernel_rfl) rfl #[.int .i64 a0, .int .i64 19, .int .i64 34] rfl la_ ?_; (with_reducible refine (impl_within.calls a0 19 34 false _ A6.out).mono ?_); rintro e w' ⟨rfl, ⟨nd, rfl⟩⟩; refine ⟨_, rfl, ?_⟩))
  go_ret2
  exact ⟨by first | rfl | (simp; done) | (simp [*]; done), by repeat (first | exact Drawn0.refl _ | apply Drawn0.step)⟩
 rw [if_neg c8] at H
 have c8b0 : (a0 == 35) = false := beq_eq_false_iff_ne.mpr c8
 have c8b1 : (a0 != 35) = true := bne_iff_ne.mpr c8
 by_cases c9 : a0 = 36
 ·rw [if_pos c9] at H
  have c9b0 : (a0 == 36) = true := beq_iff_eq.mpr c9
  have c9b1 : (a0 != 36) = false := bne_eq_false_iff_eq.mpr c9
  clear c9
  simp only [Option.some.injEq, Prod.mk.injEq] at H
  obtain ⟨rfl, rfl⟩ := H
  go_enter Try.func122, Try.ntmps122
  go_wp2_with (first | ((with_reducible refine gate_callee (f := 104) rfl ?_); refine goesL_ (some 6) rfl rfl Try.func104 (by kernel_rfl) rfl #[.int .i64 a0, .int .i64 0, .int .i64 2] rfl la_ ?_; (with_reducible refine (impl_within.calls a0 0 2 false _ A2.out).mono ?_); rintro e w' ⟨rfl, ⟨nd, rfl⟩⟩; refine ⟨_, rfl, ?_⟩) | ((with_reducible refine gate_callee (f := 104) rfl ?_); refine goesL_ (some 10) rfl rfl Try.func104 (by kernel_rfl) rfl #[.int .i64 a0, .int .i64 3, .int .i64 18] rfl la_ ?_; (with_reducible refine (impl_within.calls a0 3 18 false _ A4.out).mono ?_); rintro e w' ⟨rfl, ⟨nd, rfl⟩⟩; refine ⟨_, rfl, ?_⟩) | ((with_reducible refine gate_callee (f := 104) rfl ?_); refine goesL_ (some 15) rfl rfl Try.func104 (by kernel_rfl) rfl #[.int .i64 a0, .int .i64 19, .int .i64 34] rfl la_ ?_; (with_reducible refine (impl_within.calls a0 19 34 false _ A6.out).mono ?_); rintro e w' ⟨rfl, ⟨nd, rfl⟩⟩; refine ⟨_, rfl, ?_⟩))
  go_ret2
  exact ⟨by first | rfl | (simp; done) | (simp [*]; done), by repeat (first | exact Drawn0.refl _ | apply Drawn0.step)⟩
 rw [if_neg c9] at H
 have c9b0 : (a0 == 36) = false := beq_eq_false_iff_ne.mpr c9
 have c9b1 : (a0 != 36) = true := bne_iff_ne.mpr c9
 simp only [Option.some.injEq, Prod.mk.injEq] at H
 obtain ⟨rfl, rfl⟩ := H
 go_enter Try.func122, Try.ntmps122
 go_wp2_with (first | ((with_reducible refine gate_callee (f := 104) rfl ?_); refine goesL_ (some 6) rfl rfl Try.func104 (by kernel_rfl) rfl #[.int .i64 a0, .int .i64 0, .int .i64 2] rfl la_ ?_; (with_reducible refine (impl_within.calls a0 0 2 false _ A2.out).mono ?_); rintro e w' ⟨rfl, ⟨nd, rfl⟩⟩; refine ⟨_, rfl, ?_⟩) | ((with_reducible refine gate_callee (f := 104) rfl ?_); refine goesL_ (some 10) rfl rfl Try.func104 (by kernel_rfl) rfl #[.int .i64 a0, .int .i64 3, .int .i64 18] rfl la_ ?_; (with_reducible refine (impl_within.calls a0 3 18 false _ A4.out).mono ?_); rintro e w' ⟨rfl, ⟨nd, rfl⟩⟩; refine ⟨_, rfl, ?_⟩) | ((with_reducible refine gate_callee (f := 104) rfl ?_); refine goesL_ (some 15) rfl rfl Try.func104 (by kernel_rfl) rfl #[.int .i64 a0, .int .i64 19, .int .i64 34] rfl la_ ?_; (with_reducible refine (impl_within.calls a0 19 34 false _ A6.out).mono ?_); rintro e w' ⟨rfl, ⟨nd, rfl⟩⟩; refine ⟨_, rfl, ?_⟩))
 go_ret2
 exact ⟨by first | rfl | (simp; done) | (simp [*]; done), by repeat (first | exact Drawn0.refl _ | apply Drawn0.step)⟩


/-! ### impl_adds: function 123 -/
mutual
def impl_adds.j0 : Nat → Int → Int → Bool → Option (Int)
 | 0, _, _, _ => none
 | k + 1, x0, x1, x5 => if x5 = true then (some 2) else (if x0 = 8 then (impl_adds.j1 k x0 x1 (decide (x1 > 0))) else (impl_adds.j1 k x0 x1 false))
def impl_adds.j1 : Nat → Int → Int → Bool → Option (Int)
 | 0, _, _, _ => none
 | k + 1, x0, x1, x12 => if x12 = true then (some 1) else (if x0 = 9 then (some 1) else (if x0 = 12 then (if x1 = 1 then (some 1) else (some 0)) else (some 0)))
end
def impl_adds.f (k : Nat) (a0 : Int) (a1 : Int) : Option (Int) := if a0 = 5 then (impl_adds.j0 k a0 a1 (a1 == 1)) else (impl_adds.j0 k a0 a1 false)
set_option maxHeartbeats 8000000 in
set_option maxRecDepth 100000 in
theorem impl_adds.calls (k : Nat) (a0 : Int) (a1 : Int) (r : Int) (w : World) (h : impl_adds.f k a0 a1 = some r) :
  Calls Try.prog 123 #[.int .i64 a0, .int .i64 a1] w fun e w' => e = .returned (.int .i64 r) ∧ Drawn0 w w' := by
 have H : (if a0 = 5 then (impl_adds.j0 k a0 a1 (a1 == 1)) else (impl_adds.j0 k a0 a1 false)) = some r := h
 clear h
 have HC3 := sd_ H
 clear H
 go_enter Try.func123, Try.ntmps123
 go_upto_region 1 with (fail)
 go_cut [5] (fun v5 wc => ∃ (kq : Nat) (x5_2 : Bool), v5 = .bool x5_2 ∧ Aside0 (impl_adds.j0 kq a0 a1 x5_2 = some r) ∧ Aside0 (kq ≤ k) ∧ Drawn0 w wc)
 case first =>
  have H := HC3.out
  clear HC3
  by_cases c4 : a0 = 5
  ·rw [if_pos c4] at H
   have c4b0 : (a0 == 5) = true := beq_iff_eq.mpr c4
   have c4b1 : (a0 != 5) = false := bne_eq_false_iff_eq.mpr c4
   clear c4
   (first | rw [c4b0] | (simp only [i64_w, i32_w]; rw [c4b0]) | skip)
   have H' := sd_ H
   clear H
   go_wp2
   go_meet
   case rel => exact ⟨_, ((a1 == 1)), sm_, H', ⟨by first | omega | exact Nat.le_refl _⟩, by repeat (first | exact Drawn0.refl _ | apply Drawn0.step)⟩
  rw [if_neg c4] at H
  have c4b0 : (a0 == 5) = false := beq_eq_false_iff_ne.mpr c4
  have c4b1 : (a0 != 5) = true := bne_iff_ne.mpr c4
  (first | rw [c4b0] | (simp only [i64_w, i32_w]; rw [c4b0]) | skip)
  have H' := sd_ H
  clear H
  go_wp2
  go_meet
  case rel => exact ⟨_, (false), sm_, H', ⟨by first | omega | exact Nat.le_refl _⟩, by repeat (first | exact Drawn0.refl _ | apply Drawn0.step)⟩
 case rest =>
  clear HC3
  try clear c1
  obtain ⟨kq, x5_2, rfl, HA, HJ2, ⟨mc2, rfl⟩⟩ := hcut
  cases kq with
  | zero => exact absurd HA.out (by simp [impl_adds.j0])
  | succ kj2 =>
   have H := HA.out
   clear HA
   simp only [impl_adds.j0] at H
   by_cases c5 : x5_2 = true
   ·subst c5
    have H1 : (some 2) = some r := by rw [if_pos rfl] at H; exact H
    clear H
    have H := H1
    clear H1
    obtain rfl := Option.some.inj H
    go_wp2
    go_ret
    exact ⟨by first | rfl | (simp; done) | (simp [*]; done), by repeat (first | exact Drawn0.refl _ | apply Drawn0.step)⟩
   replace c5 := Bool.eq_false_iff.mpr c5
   subst c5
   have H1 : (if a0 = 8 then (impl_adds.j1 kj2 a0 a1 (decide (a1 > 0))) else (impl_adds.j1 kj2 a0 a1 false)) = some r := by rw [if_neg (show ¬ (false = true) by decide)] at H; exact H
   clear H
   have H := H1
   clear H1
   have HC6 := sd_ H
   clear H
   go_upto_region 3 with (fail)
   go_cut [12] (fun v12 wc => ∃ (kq : Nat) (x12_5 : Bool), v12 = .bool x12_5 ∧ Aside0 (impl_adds.j1 kq a0 a1 x12_5 = some r) ∧ Aside0 (kq ≤ kj2) ∧ Drawn0 w wc)
   case first =>
    have H := HC6.out
    clear HC6
    by_cases c7 : a0 = 8
    ·rw [if_pos c7] at H
     have c7b0 : (a0 == 8) = true := beq_iff_eq.mpr c7
     have c7b1 : (a0 != 8) = false := bne_eq_false_iff_eq.mpr c7
     clear c7
     (first | rw [c7b0] | (simp only [i64_w, i32_w]; rw [c7b0]) | skip)
     have H' := sd_ H
     clear H
     go_wp2
     go_meet
     case rel => exact ⟨_, (decide (a1 > 0)), sm_, H', ⟨by have := HJ2.out; first | omega | exact Nat.le_refl _⟩, by repeat (first | exact Drawn0.refl _ | apply Drawn0.step)⟩
    rw [if_neg c7] at H
    have c7b0 : (a0 == 8) = false := beq_eq_false_iff_ne.mpr c7
    have c7b1 : (a0 != 8) = true := bne_iff_ne.mpr c7
    (first | rw [c7b0] | (simp only [i64_w, i32_w]; rw [c7b0]) | skip)
    have H' := sd_ H
    clear H
    go_wp2
    go_meet
    case rel => exact ⟨_, (false), sm_, H', ⟨by have := HJ2.out; first | omega | exact Nat.le_refl _⟩, by repeat (first | exact Drawn0.refl _ | apply Drawn0.step)⟩
   case rest =>
    clear HC6
    try clear c1
    try clear c2
    try clear c5
    obtain ⟨kq, x12_5, rfl, HA, HJ5, ⟨mc5, rfl⟩⟩ := hcut
    cases kq with
    | zero => exact absurd HA.out (by simp [impl_adds.j1])
    | succ kj5 =>
     have H := HA.out
     clear HA
     simp only [impl_adds.j1] at H
     by_cases c8 : x12_5 = true
     ·subst c8
      have H1 : (some 1) = some r := by rw [if_pos rfl] at H; exact H
      clear H
      have H := H1
      clear H1
      obtain rfl := Option.some.inj H
      go_wp2
      go_ret
      exact ⟨by first | rfl | (simp; done) | (simp [*]; done), by repeat (first | exact Drawn0.refl _ | apply Drawn0.step)⟩
     replace c8 := Bool.eq_false_iff.mpr c8
     subst c8
     have H1 : (if a0 = 9 then (some 1) else (if a0 = 12 then (if a1 = 1 then (some 1) else (some 0)) else (some 0))) = some r := by rw [if_neg (show ¬ (false = true) by decide)] at H; exact H
     clear H
     have H := H1
     clear H1
     by_cases c9 : a0 = 9
     ·rw [if_pos c9] at H
      have c9b0 : (a0 == 9) = true := beq_iff_eq.mpr c9
      have c9b1 : (a0 != 9) = false := bne_eq_false_iff_eq.mpr c9
      clear c9
      obtain rfl := Option.some.inj H
      go_wp2
      go_ret
      exact ⟨by first | rfl | (simp; done) | (simp [*]; done), by repeat (first | exact Drawn0.refl _ | apply Drawn0.step)⟩
     rw [if_neg c9] at H
     have c9b0 : (a0 == 9) = false := beq_eq_false_iff_ne.mpr c9
     have c9b1 : (a0 != 9) = true := bne_iff_ne.mpr c9
     by_cases c10 : a0 = 12
     ·rw [if_pos c10] at H
      have c10b0 : (a0 == 12) = true := beq_iff_eq.mpr c10
      have c10b1 : (a0 != 12) = false := bne_eq_false_iff_eq.mpr c10
      clear c10
      by_cases c11 : a1 = 1
      ·rw [if_pos c11] at H
       have c11b0 : (a1 == 1) = true := beq_iff_eq.mpr c11
       have c11b1 : (a1 != 1) = false := bne_eq_false_iff_eq.mpr c11
       clear c11
       obtain rfl := Option.some.inj H
       go_wp2
       go_ret
       exact ⟨by first | rfl | (simp; done) | (simp [*]; done), by repeat (first | exact Drawn0.refl _ | apply Drawn0.step)⟩
      rw [if_neg c11] at H
      have c11b0 : (a1 == 1) = false := beq_eq_false_iff_ne.mpr c11
      have c11b1 : (a1 != 1) = true := bne_iff_ne.mpr c11
      obtain rfl := Option.some.inj H
      go_wp2
      go_ret
      exact ⟨by first | rfl | (simp; done) | (simp [*]; done), by repeat (first | exact Drawn0.refl _ | apply Drawn0.step)⟩
     rw [if_neg c10] at H
     have c10b0 : (a0 == 12) = false := beq_eq_false_iff_ne.mpr c10
     have c10b1 : (a0 != 12) = true := bne_iff_ne.mpr c10
     obtain rfl := Option.some.inj H
     go_wp2
     go_ret
     exact ⟨by first | rfl | (simp; done) | (simp [*]; done), by repeat (first | exact Drawn0.refl _ | apply Drawn0.step)⟩


/-! ### spec_l2Many: function 136 -/
def spec_l2Many.f (a0 : Int) : Option (Int) := (spec_l1In.f a0 0 12).bind fun t163 => (if t163 = true then ((some (([0, 0, 2, 3, 2, 2, 1, 1, 3, 1, 2, 1, 2] : List Int) : List Int)).bind fun y164 => (if 0 ≤ a0 then (if a0 < (y164.length : Int) then (some (rd y164 a0)) else (none)) else (none))) else (some (-1)))
set_option maxHeartbeats 8000000 in
set_option maxRecDepth 100000 in
theorem spec_l2Many.calls (a0 : Int) (r : Int) (w : World) (h : spec_l2Many.f a0 = some r) :
  Calls Try.prog 136 #[.int .i64 a0] w fun e w' => e = .returned (.int .i64 r) ∧ Below w.heap.size w w' := by
 have HB := sd_ (Below.refl w.heap.size w)
 have H : ((spec_l1In.f a0 0 12).bind fun t163 => (if t163 = true then ((some (([0, 0, 2, 3, 2, 2, 1, 1, 3, 1, 2, 1, 2] : List Int) : List Int)).bind fun y164 => (if 0 ≤ a0 then (if a0 < (y164.length : Int) then (some (rd y164 a0)) else (none)) else (none))) else (some (-1)))) = some r := h
 clear h
 replace H := Option.bind_eq_some_iff.mp H
 obtain ⟨t163, A20, H⟩ := H
 try dsimp only at H
 have A2 := sd_ A20
 clear A20
 by_cases c3 : t163 = true
 ·subst c3
  have H1 : ((some (([0, 0, 2, 3, 2, 2, 1, 1, 3, 1, 2, 1, 2] : List Int) : List Int)).bind fun y164 => (if 0 ≤ a0 then (if a0 < (y164.length : Int) then (some (rd y164 a0)) else (none)) else (none))) = some r := by rw [if_pos rfl] at H; exact H
  clear H
  have H := H1
  clear H1
  obtain ⟨y164, hy164⟩ : ∃ y_ : List Int, y_ = (([0, 0, 2, 3, 2, 2, 1, 1, 3, 1, 2, 1, 2] : List Int)) := ⟨_, rfl⟩
  replace H : (if 0 ≤ a0 then (if a0 < (y164.length : Int) then (some (rd y164 a0)) else (none)) else (none)) = some r := by first | (rw [hy164]; with_reducible exact H) | (have H2_ := (Option.bind_some _ _).symm.trans H; rw [hy164]; with_reducible exact H2_) | (have H2_ := (Option.bind_some _ _).symm.trans H; with_reducible exact H2_) | with_reducible exact H | (rw [hy164]; exact H) | exact H
  have Ny164 := sd_ hy164
  clear hy164
  by_cases c4 : 0 ≤ a0
  ·rw [if_pos c4] at H
   have c4b0 : decide (0 ≤ a0) = true := decide_eq_true c4
   clear c4
   by_cases c5 : a0 < (y164.length : Int)
   ·rw [if_pos c5] at H
    have c5b0 : decide (a0 < (y164.length : Int)) = true := decide_eq_true c5
    clear c5
    obtain rfl := Option.some.inj H
    go_enter Try.func136, Try.ntmps136
    go_wp2_with (first | ((with_reducible refine gate_callee (f := 112) rfl ?_); refine goesL_ (some 4) rfl rfl Try.func112 (by kernel_rfl) rfl #[.int .i64 a0, .int .i64 0, .int .i64 12] rfl la_ ?_; (with_reducible refine (spec_l1In.calls a0 0 12 true _ A2.out).mono ?_); rintro e w' ⟨rfl, ⟨nd, rfl⟩⟩; refine ⟨_, rfl, ?_⟩) | ((with_reducible refine gate_dst (N := 6) rfl ?_); refine Kd.R_lit (Kd.int .i64) _ 3 ?hg (N := 6) ?hd (xs := ([0, 0, 2, 3, 2, 2, 1, 1, 3, 1, 2, 1, 2] : List Int)) (inner := [.int .i64 0, .int .i64 0, .int .i64 2, .int .i64 3, .int .i64 2, .int .i64 2, .int .i64 1, .int .i64 1, .int .i64 3, .int .i64 1, .int .i64 2, .int .i64 1, .int .i64 2]) (ok := fun _ => True) (okp := fun _ => True) ?hr ?hp (fun _ hk => hk) trivial (Below.refl _ _) (Nat.le_refl _) (by simp) ?_; (case hd => rfl); (case hg => rfl); (case hr => first | (go_simp; done) | (go_simp; rfl)); (case hp => exact (Reps.one (show Kd.M (Kd.int .i64) _ _ _ 0 [.int .i64 0] from rfl) (Reps.one (show Kd.M (Kd.int .i64) _ _ _ 0 [.int .i64 0] from rfl) (Reps.one (show Kd.M (Kd.int .i64) _ _ _ 2 [.int .i64 2] from rfl) (Reps.one (show Kd.M (Kd.int .i64) _ _ _ 3 [.int .i64 3] from rfl) (Reps.one (show Kd.M (Kd.int .i64) _ _ _ 2 [.int .i64 2] from rfl) (Reps.one (show Kd.M (Kd.int .i64) _ _ _ 2 [.int .i64 2] from rfl) (Reps.one (show Kd.M (Kd.int .i64) _ _ _ 1 [.int .i64 1] from rfl) (Reps.one (show Kd.M (Kd.int .i64) _ _ _ 1 [.int .i64 1] from rfl) (Reps.one (show Kd.M (Kd.int .i64) _ _ _ 3 [.int .i64 3] from rfl) (Reps.one (show Kd.M (Kd.int .i64) _ _ _ 1 [.int .i64 1] from rfl) (Reps.one (show Kd.M (Kd.int .i64) _ _ _ 2 [.int .i64 2] from rfl) (Reps.one (show Kd.M (Kd.int .i64) _ _ _ 1 [.int .i64 1] from rfl) (Reps.one (show Kd.M (Kd.int .i64) _ _ _ 2 [.int .i64 2] from rfl) (Reps.none _ _))))))))))))))); intro v165 w6 ho7 hb hg_ hnew_; clear hg_ hnew_; (first | rw [← Ny164.out] at ho7 | (simp only [Int.reduceToNat] at ho7; rw [← Ny164.out] at ho7)); have HO166 := sd_ (Kd.R_lower ho7 (below_size (bw0_ HB.out))); replace HB := sd_ (below_step (bw0_ HB.out) hb); clear hb ho7; obtain ⟨Ao8, co8, eo8⟩ := Kd.R_slice HO166.out; subst eo8; have p167 : 0 ≤ (a0 : Int) := dt_; have q167 : a0 < (y164.length : Int) := dt_; obtain ⟨ad167, e167, hx167_0⟩ := Kd.at_int (Kd.R_reads' HO166.out).2.2 a0 p167 q167; cases e167; replace p167 := eq_true p167; replace q167 := eq_true q167))
    go_ret
    exact ⟨an_, bw0_ HB.out⟩
   rw [if_neg c5] at H
   exact absurd H (by simp)
  rw [if_neg c4] at H
  exact absurd H (by simp)
 replace c3 := Bool.eq_false_iff.mpr c3
 subst c3
 have H1 : (some (-1)) = some r := by rw [if_neg (show ¬ (false = true) by decide)] at H; exact H
 clear H
 have H := H1
 clear H1
 obtain rfl := Option.some.inj H
 go_enter Try.func136, Try.ntmps136
 go_wp2_with (first | ((with_reducible refine gate_callee (f := 112) rfl ?_); refine goesL_ (some 4) rfl rfl Try.func112 (by kernel_rfl) rfl #[.int .i64 a0, .int .i64 0, .int .i64 12] rfl la_ ?_; (with_reducible refine (spec_l1In.calls a0 0 12 false _ A2.out).mono ?_); rintro e w' ⟨rfl, ⟨nd, rfl⟩⟩; refine ⟨_, rfl, ?_⟩))
 go_ret
 exact ⟨an_, bw0_ HB.out⟩


/-! ### spec_l2Graded: function 137 -/
mutual
def spec_l2Graded.l0 : Nat → List Int → Int → Bool → Int → Option (Bool)
 | 0, _, _, _, _ => none
 | k + 1, x0, x1, x2, x7 => if x7 < (x0.length : Int) then (if 0 ≤ x7 then ((spec_l2Kids.f k (rd x0 x7)).bind fun t169 => (if t169 > 0 then (spec_l2Graded.j1 k x0 x1 x2 x7 (decide ((rd x0 x7) > 2))) else (spec_l2Graded.j1 k x0 x1 x2 x7 false))) else (none)) else (some true)
def spec_l2Graded.j1 : Nat → List Int → Int → Bool → Int → Bool → Option (Bool)
 | 0, _, _, _, _, _ => none
 | k + 1, x0, x1, x2, x7, x27 => if x27 = true then (if 0 ≤ x7 then (if x7 < (x0.length : Int) then ((spec_l2Grade.f (rd x0 x7)).bind fun t172 => (if t172 ≥ x1 then (some false) else (if x2 = true then (if t172 < 0 then (some false) else (spec_l2Graded.l0 k x0 x1 x2 (wrap64 (x7 + 1)))) else (spec_l2Graded.l0 k x0 x1 x2 (wrap64 (x7 + 1)))))) else (none)) else (none)) else (spec_l2Graded.l0 k x0 x1 x2 (wrap64 (x7 + 1)))
end
def spec_l2Graded.f (k : Nat) (l0 : List Int) (a1 : Int) (a2 : Bool) : Option (Bool) := spec_l2Graded.l0 k l0 a1 a2 0
set_option maxHeartbeats 8000000 in
set_option maxRecDepth 100000 in
theorem spec_l2Graded.calls (k : Nat) (A0 : Option Addr) (c0 : Nat) (l0 : List Int) (a1 : Int) (a2 : Bool) (r : Bool) (w : World) (hr0 : Kd.C (Kd.int .i64) w A0 l0.length l0) (hc0 : l0.length ≤ c0) (h : spec_l2Graded.f k l0 a1 a2 = some r) :
  Calls Try.prog 137 #[.slice A0 l0.length c0, .int .i64 a1, .bool a2] w fun e w' => e = .returned (.bool r) ∧ Drawn0 w w' := by
 have HR0 := sd_ hr0
 have HC0 := sd_ hc0
 clear hr0 hc0
 have H : (spec_l2Graded.l0 k l0 a1 a2 0) = some r := h
 clear h
 have H' := sd_ H
 clear H
 go_enter Try.func137, Try.ntmps137
 go_wp2
 go_loopg [7] k (fun kq v7 w' => ∃ (x7_1 : Int), v7 = .int .i64 x7_1 ∧ Aside0 (spec_l2Graded.l0 kq l0 a1 a2 x7_1 = some r) ∧ Aside0 (kq ≤ k) ∧ Drawn0 w w')
 case atStart => exact ⟨(0), sm_, H', ⟨Nat.le_refl _⟩, by repeat (first | exact Drawn0.refl _ | apply Drawn0.step)⟩
 case round =>
  clear H'
  try clear c1
  try clear p2
  obtain ⟨x7_1, rfl, HA, HK1, ⟨m1, rfl⟩⟩ := hrel
  cases gk with
  | zero => exact absurd HA.out (by simp [spec_l2Graded.l0])
  | succ k1 =>
   have H := HA.out
   clear HA
   simp only [spec_l2Graded.l0] at H
   by_cases c4 : x7_1 < (l0.length : Int)
   ·rw [if_pos c4] at H
    have c4b0 : decide (x7_1 < (l0.length : Int)) = true := decide_eq_true c4
    clear c4
    have HC5 := sd_ H
    clear H
    go_upto_region 4 with (fail)
    go_cut [27] (fun v27 wc => ∃ (kq : Nat) (x27_4 : Bool), v27 = .bool x27_4 ∧ Aside0 (spec_l2Graded.j1 kq l0 a1 a2 x7_1 x27_4 = some r) ∧ Aside0 (kq ≤ k1) ∧ Drawn0 w wc)
    case first =>
     have H := HC5.out
     clear HC5
     by_cases c6 : 0 ≤ x7_1
     ·rw [if_pos c6] at H
      have c6b0 : decide (0 ≤ x7_1) = true := decide_eq_true c6
      clear c6
      (first | rw [c6b0] | (simp only [i64_w, i32_w]; rw [c6b0]) | skip)
      replace H := Option.bind_eq_some_iff.mp H
      obtain ⟨t169, A70, H⟩ := H
      try dsimp only at H
      have A7 := sd_ A70
      clear A70
      by_cases c8 : t169 > 0
      ·rw [if_pos c8] at H
       have c8b0 : decide (0 < t169) = true := decide_eq_true c8
       clear c8
       have H' := sd_ H
       clear H
       have p168 : 0 ≤ (x7_1 : Int) := dt_
       have q168 : x7_1 < (l0.length : Int) := dt_
       obtain ⟨ad168, e168, hx168_0⟩ := Kd.at_int HR0.out x7_1 p168 q168
       cases e168
       replace p168 := eq_true p168
       replace q168 := eq_true q168
       go_wp2_with (first | ((with_reducible refine gate_callee (f := 114) rfl ?_); refine goesL_ (some 19) rfl rfl Try.func114 (by kernel_rfl) rfl #[.int .i64 (rd l0 x7_1)] rfl la_ ?_; (with_reducible refine (spec_l2Kids.calls k1 (rd l0 x7_1) t169 _ A7.out).mono ?_); rintro e w' ⟨rfl, ⟨nd, rfl⟩⟩; refine ⟨_, rfl, ?_⟩; have p170 : 0 ≤ (x7_1 : Int) := dt_; have q170 : x7_1 < (l0.length : Int) := dt_; obtain ⟨ad170, e170, hx170_0⟩ := Kd.at_int HR0.out x7_1 p170 q170; obtain rfl : ad168 = ad170 := (by injection e170); replace p170 := eq_true p170; replace q170 := eq_true q170))
       go_meet
       case rel => exact ⟨_, (decide ((rd l0 x7_1) > 2)), sm_, H', ⟨by have := HK1.out; first | omega | exact Nat.le_refl _⟩, by repeat (first | exact Drawn0.refl _ | apply Drawn0.step)⟩
      rw [if_neg c8] at H
      have c8b0 : decide (0 < t169) = false := decide_eq_false c8
      clear c8
      have H' := sd_ H
      clear H
      have p168 : 0 ≤ (x7_1 : Int) := dt_
      have q168 : x7_1 < (l0.length : Int) := dt_
      obtain ⟨ad168, e168, hx168_0⟩ := Kd.at_int HR0.out x7_1 p168 q168
      cases e168
      replace p168 := eq_true p168
      replace q168 := eq_true q168
      go_wp2_with (first | ((with_reducible refine gate_callee (f := 114) rfl ?_); refine goesL_ (some 19) rfl rfl Try.func114 (by kernel_rfl) rfl #[.int .i64 (rd l0 x7_1)] rfl la_ ?_; (with_reducible refine (spec_l2Kids.calls k1 (rd l0 x7_1) t169 _ A7.out).mono ?_); rintro e w' ⟨rfl, ⟨nd, rfl⟩⟩; refine ⟨_, rfl, ?_⟩))
      go_meet
      case rel => exact ⟨_, (false), sm_, H', ⟨by have := HK1.out; first | omega | exact Nat.le_refl _⟩, by repeat (first | exact Drawn0.refl _ | apply Drawn0.step)⟩
     rw [if_neg c6] at H
     exact absurd H (by simp)
    case rest =>
     clear HC5
     try clear c1
     try clear p2
     try clear c4
     try clear c4b0
     try clear p2
     obtain ⟨kq, x27_4, rfl, HA, HJ4, ⟨mc4, rfl⟩⟩ := hcut
     cases kq with
     | zero => exact absurd HA.out (by simp [spec_l2Graded.j1])
     | succ kj4 =>
      have H := HA.out
      clear HA
      simp only [spec_l2Graded.j1] at H
      by_cases c9 : x27_4 = true
      ·subst c9
       have H1 : (if 0 ≤ x7_1 then (if x7_1 < (l0.length : Int) then ((spec_l2Grade.f (rd l0 x7_1)).bind fun t172 => (if t172 ≥ a1 then (some false) else (if a2 = true then (if t172 < 0 then (some false) else (spec_l2Graded.l0 kj4 l0 a1 a2 (wrap64 (x7_1 + 1)))) else (spec_l2Graded.l0 kj4 l0 a1 a2 (wrap64 (x7_1 + 1)))))) else (none)) else (none)) = some r := by rw [if_pos rfl] at H; exact H
       clear H
       have H := H1
       clear H1
       by_cases c10 : 0 ≤ x7_1
       ·rw [if_pos c10] at H
        have c10b0 : decide (0 ≤ x7_1) = true := decide_eq_true c10
        clear c10
        by_cases c11 : x7_1 < (l0.length : Int)
        ·rw [if_pos c11] at H
         have c11b0 : decide (x7_1 < (l0.length : Int)) = true := decide_eq_true c11
         clear c11
         replace H := Option.bind_eq_some_iff.mp H
         obtain ⟨t172, A120, H⟩ := H
         try dsimp only at H
         have A12 := sd_ A120
         clear A120
         by_cases c13 : t172 ≥ a1
         ·rw [if_pos c13] at H
          have c13b0 : decide (a1 ≤ t172) = true := decide_eq_true c13
          clear c13
          obtain rfl := Option.some.inj H
          have p171 : 0 ≤ (x7_1 : Int) := dt_
          have q171 : x7_1 < (l0.length : Int) := dt_
          obtain ⟨ad171, e171, hx171_0⟩ := Kd.at_int HR0.out x7_1 p171 q171
          cases e171
          replace p171 := eq_true p171
          replace q171 := eq_true q171
          go_wp2_with (first | ((with_reducible refine gate_callee (f := 115) rfl ?_); refine goesL_ (some 32) rfl rfl Try.func115 (by kernel_rfl) rfl #[.int .i64 (rd l0 x7_1)] rfl la_ ?_; (with_reducible refine (spec_l2Grade.calls (rd l0 x7_1) t172 _ A12.out).mono ?_); rintro e w' ⟨rfl, ⟨nd, rfl⟩⟩; refine ⟨_, rfl, ?_⟩))
          go_ret
          exact ⟨by first | rfl | (simp; done) | (simp [*]; done), by repeat (first | exact Drawn0.refl _ | apply Drawn0.step)⟩
         rw [if_neg c13] at H
         have c13b0 : decide (a1 ≤ t172) = false := decide_eq_false c13
         clear c13
         by_cases c14 : a2 = true
         ·subst c14
          have H1 : (if t172 < 0 then (some false) else (spec_l2Graded.l0 kj4 l0 a1 true (wrap64 (x7_1 + 1)))) = some r := by rw [if_pos rfl] at H; exact H
          clear H
          have H := H1
          clear H1
          by_cases c15 : t172 < 0
          ·rw [if_pos c15] at H
           have c15b0 : decide (t172 < 0) = true := decide_eq_true c15
           clear c15
           obtain rfl := Option.some.inj H
           have p171 : 0 ≤ (x7_1 : Int) := dt_
           have q171 : x7_1 < (l0.length : Int) := dt_
           obtain ⟨ad171, e171, hx171_0⟩ := Kd.at_int HR0.out x7_1 p171 q171
           cases e171
           replace p171 := eq_true p171
           replace q171 := eq_true q171
           go_wp2_with (first | ((with_reducible refine gate_callee (f := 115) rfl ?_); refine goesL_ (some 32) rfl rfl Try.func115 (by kernel_rfl) rfl #[.int .i64 (rd l0 x7_1)] rfl la_ ?_; (with_reducible refine (spec_l2Grade.calls (rd l0 x7_1) t172 _ A12.out).mono ?_); rintro e w' ⟨rfl, ⟨nd, rfl⟩⟩; refine ⟨_, rfl, ?_⟩))
           go_ret
           exact ⟨by first | rfl | (simp; done) | (simp [*]; done), by repeat (first | exact Drawn0.refl _ | apply Drawn0.step)⟩
          rw [if_neg c15] at H
          have c15b0 : decide (t172 < 0) = false := decide_eq_false c15
          clear c15
          have H' := sd_ H
          clear H
          have p171 : 0 ≤ (x7_1 : Int) := dt_
          have q171 : x7_1 < (l0.length : Int) := dt_
          obtain ⟨ad171, e171, hx171_0⟩ := Kd.at_int HR0.out x7_1 p171 q171
          cases e171
          replace p171 := eq_true p171
          replace q171 := eq_true q171
          go_wp2_with (first | ((with_reducible refine gate_callee (f := 115) rfl ?_); refine goesL_ (some 32) rfl rfl Try.func115 (by kernel_rfl) rfl #[.int .i64 (rd l0 x7_1)] rfl la_ ?_; (with_reducible refine (spec_l2Grade.calls (rd l0 x7_1) t172 _ A12.out).mono ?_); rintro e w' ⟨rfl, ⟨nd, rfl⟩⟩; refine ⟨_, rfl, ?_⟩))
          go_roundg kj4
          case measure => have := HK1.out; have := HJ4.out; omega
          case rel => exact ⟨(wrap64 (x7_1 + 1)), sm_, H', ⟨by have := HK1.out; have := HJ4.out; omega⟩, by repeat (first | exact Drawn0.refl _ | apply Drawn0.step)⟩
         replace c14 := Bool.eq_false_iff.mpr c14
         subst c14
         have H1 : (spec_l2Graded.l0 kj4 l0 a1 false (wrap64 (x7_1 + 1))) = some r := by rw [if_neg (show ¬ (false = true) by decide)] at H; exact H
         clear H
         have H := H1
         clear H1
         have H' := sd_ H
         clear H
         have p171 : 0 ≤ (x7_1 : Int) := dt_
         have q171 : x7_1 < (l0.length : Int) := dt_
         obtain ⟨ad171, e171, hx171_0⟩ := Kd.at_int HR0.out x7_1 p171 q171
         cases e171
         replace p171 := eq_true p171
         replace q171 := eq_true q171
         go_wp2_with (first | ((with_reducible refine gate_callee (f := 115) rfl ?_); refine goesL_ (some 32) rfl rfl Try.func115 (by kernel_rfl) rfl #[.int .i64 (rd l0 x7_1)] rfl la_ ?_; (with_reducible refine (spec_l2Grade.calls (rd l0 x7_1) t172 _ A12.out).mono ?_); rintro e w' ⟨rfl, ⟨nd, rfl⟩⟩; refine ⟨_, rfl, ?_⟩))
         go_roundg kj4
         case measure => have := HK1.out; have := HJ4.out; omega
         case rel => exact ⟨(wrap64 (x7_1 + 1)), sm_, H', ⟨by have := HK1.out; have := HJ4.out; omega⟩, by repeat (first | exact Drawn0.refl _ | apply Drawn0.step)⟩
        rw [if_neg c11] at H
        exact absurd H (by simp)
       rw [if_neg c10] at H
       exact absurd H (by simp)
      replace c9 := Bool.eq_false_iff.mpr c9
      subst c9
      have H1 : (spec_l2Graded.l0 kj4 l0 a1 a2 (wrap64 (x7_1 + 1))) = some r := by rw [if_neg (show ¬ (false = true) by decide)] at H; exact H
      clear H
      have H := H1
      clear H1
      have H' := sd_ H
      clear H
      go_wp2
      go_roundg kj4
      case measure => have := HK1.out; have := HJ4.out; omega
      case rel => exact ⟨(wrap64 (x7_1 + 1)), sm_, H', ⟨by have := HK1.out; have := HJ4.out; omega⟩, by repeat (first | exact Drawn0.refl _ | apply Drawn0.step)⟩
   rw [if_neg c4] at H
   have c4b0 : decide (x7_1 < (l0.length : Int)) = false := decide_eq_false c4
   clear c4
   obtain rfl := Option.some.inj H
   go_wp2
   go_ret
   exact ⟨by first | rfl | (simp; done) | (simp [*]; done), by repeat (first | exact Drawn0.refl _ | apply Drawn0.step)⟩

end Go.Proofs.Ytipfkicndjddgaa.P
end
