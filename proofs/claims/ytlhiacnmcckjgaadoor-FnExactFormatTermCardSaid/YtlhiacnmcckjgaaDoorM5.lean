-- Several texts in one (wip/tools/merge.py).
import Derived.Test.YtlhiacnmcckjgaaDoorM1
import Derived.Test.YtlhiacnmcckjgaaDoorM4
import Derived.Test.YtlhiacnmcckjgaaDoorM3
import Derived.Test.YtlhiacnmcckjgaaDoorS0
section
namespace Go.Proofs.YtlhiacnmcckjgaaDoor.P
open Go.RowKit Go.Proofs.YtlhiacnmcckjgaaDoorW.PrintWords Go.Proofs.YtlhiacnmcckjgaaDoorW.PrintLast Go.Proofs.YtlhiacnmcckjgaaDoorW.PrintMore
attribute [local go_sem] max2_int min2_int max_two min_two max_three min_three max_four min_four   -- for this text's walks alone
set_option linter.unusedVariables false
set_option linter.unusedSimpArgs false

/-! ### impl_gradeText: function 44 -/
def impl_gradeText.f (a0 : Int) : Option (ByteArray) := if a0 < 0 then (some (⟨#[63]⟩ : ByteArray)) else ((strconv_Itoa_43.f a0).bind fun t256 => (some t256))
set_option maxHeartbeats 8000000 in
set_option maxRecDepth 100000 in
theorem impl_gradeText.calls (a0 : Int) (r : ByteArray) (w : World) (h : impl_gradeText.f a0 = some r) :
  Calls Tryd.prog 44 #[.int .i64 a0] w fun e w' => e = .returned (.string r) ∧ Drawn0 w w' := by
 have H : (if a0 < 0 then (some (⟨#[63]⟩ : ByteArray)) else ((strconv_Itoa_43.f a0).bind fun t256 => (some t256))) = some r := h
 clear h
 by_cases c2 : a0 < 0
 ·rw [if_pos c2] at H
  have c2b0 : decide (a0 < 0) = true := decide_eq_true c2
  clear c2
  obtain rfl := Option.some.inj H
  go_enter Tryd.func44, Tryd.ntmps44
  go_wp2
  go_ret
  exact ⟨by first | rfl | (simp; done) | (simp [*]; done), by repeat (first | exact Drawn0.refl _ | apply Drawn0.step)⟩
 rw [if_neg c2] at H
 have c2b0 : decide (a0 < 0) = false := decide_eq_false c2
 clear c2
 replace H := Option.bind_eq_some_iff.mp H
 obtain ⟨t256, A30, H⟩ := H
 try dsimp only at H
 have A3 := sd_ A30
 clear A30
 obtain rfl := Option.some.inj H
 go_enter Tryd.func44, Tryd.ntmps44
 go_wp2_with (first | ((with_reducible refine gate_callee (f := 43) rfl ?_); refine goesL_ (some 6) rfl rfl Tryd.func43 (by kernel_rfl) rfl #[.int .i64 a0] rfl la_ ?_; (with_reducible refine (strconv_Itoa_43.calls a0 t256 _ A3.out).mono ?_); rintro e w' ⟨rfl, ⟨nd, rfl⟩⟩; refine ⟨_, rfl, ?_⟩))
 go_ret
 exact ⟨by first | rfl | (simp; done) | (simp [*]; done), by repeat (first | exact Drawn0.refl _ | apply Drawn0.step)⟩


/-! ### impl_shape: function 46 -/
def impl_shape.f (a0 : Int) : Option (Int × Int) := (impl_within.f a0 0 2).bind fun t200 => (if t200 = true then (some (a0, (-1))) else ((impl_within.f a0 3 18).bind fun t201 => (if t201 = true then (some (3, wrap64 (a0 - 3))) else ((impl_within.f a0 19 34).bind fun t202 => (if t202 = true then (some (4, wrap64 (a0 - 19))) else (if a0 = 35 then (some (3, (-1))) else (if a0 = 36 then (some (4, (-1))) else (some (5, (-1))))))))))
set_option maxHeartbeats 8000000 in
set_option maxRecDepth 100000 in
theorem impl_shape.calls (a0 : Int) (r1 : Int) (r2 : Int) (w : World) (h : impl_shape.f a0 = some (r1, r2)) :
  Calls Tryd.prog 46 #[.int .i64 a0] w fun e w' => e = .returned (.tuple #[.int .i64 r1, .int .i64 r2]) ∧ Drawn0 w w' := by
 have H : ((impl_within.f a0 0 2).bind fun t200 => (if t200 = true then (some (a0, (-1))) else ((impl_within.f a0 3 18).bind fun t201 => (if t201 = true then (some (3, wrap64 (a0 - 3))) else ((impl_within.f a0 19 34).bind fun t202 => (if t202 = true then (some (4, wrap64 (a0 - 19))) else (if a0 = 35 then (some (3, (-1))) else (if a0 = 36 then (some (4, (-1))) else (some (5, (-1))))))))))) = some (r1, r2) := h
 clear h
 replace H := Option.bind_eq_some_iff.mp H
 obtain ⟨t200, A20, H⟩ := H
 try dsimp only at H
 have A2 := sd_ A20
 clear A20
 by_cases c3 : t200 = true
 ·subst c3
  have H1 : (some (a0, (-1))) = some (r1, r2) := by rw [if_pos rfl] at H; exact H
  clear H
  have H := H1
  clear H1
  simp only [Option.some.injEq, Prod.mk.injEq] at H
  obtain ⟨rfl, rfl⟩ := H
  go_enter Tryd.func46, Tryd.ntmps46
  go_wp2_with (first | ((with_reducible refine gate_callee (f := 32) rfl ?_); refine goesL_ (some 6) rfl rfl Tryd.func32 (by kernel_rfl) rfl #[.int .i64 a0, .int .i64 0, .int .i64 2] rfl la_ ?_; (with_reducible refine (impl_within.calls a0 0 2 true _ A2.out).mono ?_); rintro e w' ⟨rfl, ⟨nd, rfl⟩⟩; refine ⟨_, rfl, ?_⟩))
  go_ret2
  exact ⟨by first | rfl | (simp; done) | (simp [*]; done), by repeat (first | exact Drawn0.refl _ | apply Drawn0.step)⟩
 replace c3 := Bool.eq_false_iff.mpr c3
 subst c3
 have H1 : ((impl_within.f a0 3 18).bind fun t201 => (if t201 = true then (some (3, wrap64 (a0 - 3))) else ((impl_within.f a0 19 34).bind fun t202 => (if t202 = true then (some (4, wrap64 (a0 - 19))) else (if a0 = 35 then (some (3, (-1))) else (if a0 = 36 then (some (4, (-1))) else (some (5, (-1))))))))) = some (r1, r2) := by rw [if_neg (show ¬ (false = true) by decide)] at H; exact H
 clear H
 have H := H1
 clear H1
 replace H := Option.bind_eq_some_iff.mp H
 obtain ⟨t201, A40, H⟩ := H
 try dsimp only at H
 have A4 := sd_ A40
 clear A40
 by_cases c5 : t201 = true
 ·subst c5
  have H1 : (some (3, wrap64 (a0 - 3))) = some (r1, r2) := by rw [if_pos rfl] at H; exact H
  clear H
  have H := H1
  clear H1
  simp only [Option.some.injEq, Prod.mk.injEq] at H
  obtain ⟨rfl, rfl⟩ := H
  go_enter Tryd.func46, Tryd.ntmps46
  go_wp2_with (first | ((with_reducible refine gate_callee (f := 32) rfl ?_); refine goesL_ (some 6) rfl rfl Tryd.func32 (by kernel_rfl) rfl #[.int .i64 a0, .int .i64 0, .int .i64 2] rfl la_ ?_; (with_reducible refine (impl_within.calls a0 0 2 false _ A2.out).mono ?_); rintro e w' ⟨rfl, ⟨nd, rfl⟩⟩; refine ⟨_, rfl, ?_⟩) | ((with_reducible refine gate_callee (f := 32) rfl ?_); refine goesL_ (some 10) rfl rfl Tryd.func32 (by kernel_rfl) rfl #[.int .i64 a0, .int .i64 3, .int .i64 18] rfl la_ ?_; (with_reducible refine (impl_within.calls a0 3 18 true _ A4.out).mono ?_); rintro e w' ⟨rfl, ⟨nd, rfl⟩⟩; refine ⟨_, rfl, ?_⟩))
  go_ret2
  exact ⟨by first | rfl | (simp; done) | (simp [*]; done), by repeat (first | exact Drawn0.refl _ | apply Drawn0.step)⟩
 replace c5 := Bool.eq_false_iff.mpr c5
 subst c5
 have H1 : ((impl_within.f a0 19 34).bind fun t202 => (if t202 = true then (some (4, wrap64 (a0 - 19))) else (if a0 = 35 then (some (3, (-1))) else (if a0 = 36 then (some (4, (-1))) else (some (5, (-1))))))) = some (r1, r2) := by rw [if_neg (show ¬ (false = true) by decide)] at H; exact H
 clear H
 have H := H1
 clear H1
 replace H := Option.bind_eq_some_iff.mp H
 obtain ⟨t202, A60, H⟩ := H
 try dsimp only at H
 have A6 := sd_ A60
 clear A60
 by_cases c7 : t202 = true
 ·subst c7
  have H1 : (some (4, wrap64 (a0 - 19))) = some (r1, r2) := by rw [if_pos rfl] at H; exact H
  clear H
  have H := H1
  clear H1
  simp only [Option.some.injEq, Prod.mk.injEq] at H
  obtain ⟨rfl, rfl⟩ := H
  go_enter Tryd.func46, Tryd.ntmps46
  go_wp2_with (first | ((with_reducible refine gate_callee (f := 32) rfl ?_); refine goesL_ (some 6) rfl rfl Tryd.func32 (by kernel_rfl) rfl #[.int .i64 a0, .int .i64 0, .int .i64 2] rfl la_ ?_; (with_reducible refine (impl_within.calls a0 0 2 false _ A2.out).mono ?_); rintro e w' ⟨rfl, ⟨nd, rfl⟩⟩; refine ⟨_, rfl, ?_⟩) | ((with_reducible refine gate_callee (f := 32) rfl ?_); refine goesL_ (some 10) rfl rfl Tryd.func32 (by kernel_rfl) rfl #[.int .i64 a0, .int .i64 3, .int .i64 18] rfl la_ ?_; (with_reducible refine (impl_within.calls a0 3 18 false _ A4.out).mono ?_); rintro e w' ⟨rfl, ⟨nd, rfl⟩⟩; refine ⟨_, rfl, ?_⟩) | ((with_reducible refine gate_callee (f := 32) rfl ?_); refine goesL_ (some 15) rfl rfl Tryd.func32 (by kernel_rfl) rfl #[.int .i64 a0, .int .i64 19, .int .i64 34] rfl la_ ?_; (with_reducible refine (impl_within.calls a0 19 34 true _ A6.out).mono ?_); rintro e w' ⟨rfl, ⟨nd, rfl⟩⟩; refine ⟨_, rfl, ?_⟩))
  go_ret2
  exact ⟨by first | rfl | (simp; done) | (simp [*]; done), by repeat (first | exact Drawn0.refl _ | apply Drawn0.step)⟩
 replace c7 := Bool.eq_false_iff.mpr c7
 subst c7
 have H1 : (if a0 = 35 then (some (3, (-1))) else (if a0 = 36 then (some (4, (-1))) else (some (5, (-1))))) = some (r1, r2) := by rw [if_neg (show ¬ (false = true) by decide)] at H; exact H
 clear H
 have H := H1
 clear H1
 by_cases c8 : a0 = 35
 ·rw [if_pos c8] at H
  have c8b0 : (a0 == 35) = true := beq_iff_eq.mpr c8
  have c8b1 : (a0 != 35) = false := bne_eq_false_iff_eq.mpr c8
  clear c8
  simp only [Option.some.injEq, Prod.mk.injEq] at H
  obtain ⟨rfl, rfl⟩ := H
  go_enter Tryd.func46, Tryd.ntmps46
  go_wp2_with (first | ((with_reducible refine gate_callee (f := 32) rfl ?_); refine goesL_ (some 6) rfl rfl Tryd.func32 (by kernel_rfl) rfl #[.int .i64 a0, .int .i64 0, .int .i64 2] rfl la_ ?_; (with_reducible refine (impl_within.calls a0 0 2 false _ A2.out).mono ?_); rintro e w' ⟨rfl, ⟨nd, rfl⟩⟩; refine ⟨_, rfl, ?_⟩) | ((with_reducible refine gate_callee (f := 32) rfl ?_); refine goesL_ (some 10) rfl rfl Tryd.func32 (by kernel_rfl) rfl #[.int .i64 a0, .int .i64 3, .int .i64 18] rfl la_ ?_; (with_reducible refine (impl_within.calls a0 3 18 false _ A4.out).mono ?_); rintro e w' ⟨rfl, ⟨nd, rfl⟩⟩; refine ⟨_, rfl, ?_⟩) | ((with_reducible refine gate_callee (f := 32) rfl ?_); refine goesL_ (some 15) rfl rfl Tryd.func32 (by kernel_rfl) rfl #[.int .i64 a0, .int .i64 19, .int .i64 34] rfl la_ ?_; (with_reducible refine (impl_within.calls a0 19 34 false _ A6.out).mono ?_); rintro e w' ⟨rfl, ⟨nd, rfl⟩⟩; refine ⟨_, rfl, ?_⟩))
  go_ret2
  exact ⟨by first | rfl | (simp; done) | (simp [*]; done), by repeat (first | exact Drawn0.refl _ | apply Drawn0.step)⟩
 rw [if_neg c8] at H
 have c8b0 : (a0 == 35) = false := beq_eq_false_iff_ne.mpr c8
 have c8b1 : (a0 != 35) = true := bne_iff_ne.mpr c8
 by_cases c9 : a0 = 36
 ·rw [if_pos c9] at H
  have c9b0 : (a0 == 36) = true := beq_iff_eq.mpr c9
  have c9b1 : (a0 != 36) = false := bne_eq_false_iff_eq.mpr c9
  clear c9
  simp only [Option.some.injEq, Prod.mk.injEq] at H
  obtain ⟨rfl, rfl⟩ := H
  go_enter Tryd.func46, Tryd.ntmps46
  go_wp2_with (first | ((with_reducible refine gate_callee (f := 32) rfl ?_); refine goesL_ (some 6) rfl rfl Tryd.func32 (by kernel_rfl) rfl #[.int .i64 a0, .int .i64 0, .int .i64 2] rfl la_ ?_; (with_reducible refine (impl_within.calls a0 0 2 false _ A2.out).mono ?_); rintro e w' ⟨rfl, ⟨nd, rfl⟩⟩; refine ⟨_, rfl, ?_⟩) | ((with_reducible refine gate_callee (f := 32) rfl ?_); refine goesL_ (some 10) rfl rfl Tryd.func32 (by kernel_rfl) rfl #[.int .i64 a0, .int .i64 3, .int .i64 18] rfl la_ ?_; (with_reducible refine (impl_within.calls a0 3 18 false _ A4.out).mono ?_); rintro e w' ⟨rfl, ⟨nd, rfl⟩⟩; refine ⟨_, rfl, ?_⟩) | ((with_reducible refine gate_callee (f := 32) rfl ?_); refine goesL_ (some 15) rfl rfl Tryd.func32 (by kernel_rfl) rfl #[.int .i64 a0, .int .i64 19, .int .i64 34] rfl la_ ?_; (with_reducible refine (impl_within.calls a0 19 34 false _ A6.out).mono ?_); rintro e w' ⟨rfl, ⟨nd, rfl⟩⟩; refine ⟨_, rfl, ?_⟩))
  go_ret2
  exact ⟨by first | rfl | (simp; done) | (simp [*]; done), by repeat (first | exact Drawn0.refl _ | apply Drawn0.step)⟩
 rw [if_neg c9] at H
 have c9b0 : (a0 == 36) = false := beq_eq_false_iff_ne.mpr c9
 have c9b1 : (a0 != 36) = true := bne_iff_ne.mpr c9
 simp only [Option.some.injEq, Prod.mk.injEq] at H
 obtain ⟨rfl, rfl⟩ := H
 go_enter Tryd.func46, Tryd.ntmps46
 go_wp2_with (first | ((with_reducible refine gate_callee (f := 32) rfl ?_); refine goesL_ (some 6) rfl rfl Tryd.func32 (by kernel_rfl) rfl #[.int .i64 a0, .int .i64 0, .int .i64 2] rfl la_ ?_; (with_reducible refine (impl_within.calls a0 0 2 false _ A2.out).mono ?_); rintro e w' ⟨rfl, ⟨nd, rfl⟩⟩; refine ⟨_, rfl, ?_⟩) | ((with_reducible refine gate_callee (f := 32) rfl ?_); refine goesL_ (some 10) rfl rfl Tryd.func32 (by kernel_rfl) rfl #[.int .i64 a0, .int .i64 3, .int .i64 18] rfl la_ ?_; (with_reducible refine (impl_within.calls a0 3 18 false _ A4.out).mono ?_); rintro e w' ⟨rfl, ⟨nd, rfl⟩⟩; refine ⟨_, rfl, ?_⟩) | ((with_reducible refine gate_callee (f := 32) rfl ?_); refine goesL_ (some 15) rfl rfl Tryd.func32 (by kernel_rfl) rfl #[.int .i64 a0, .int .i64 19, .int .i64 34] rfl la_ ?_; (with_reducible refine (impl_within.calls a0 19 34 false _ A6.out).mono ?_); rintro e w' ⟨rfl, ⟨nd, rfl⟩⟩; refine ⟨_, rfl, ?_⟩))
 go_ret2
 exact ⟨by first | rfl | (simp; done) | (simp [*]; done), by repeat (first | exact Drawn0.refl _ | apply Drawn0.step)⟩


/-! ### impl_typeEnd: function 33 -/
mutual
def impl_typeEnd.j0 : Nat → List Int → Int → Bool → Option (Int)
 | 0, _, _, _ => none
 | k + 1, x0, x1, x14 => if x14 = true then (some (-1)) else (if 0 ≤ x1 then (if x1 < (x0.length : Int) then ((impl_shape.f (rd x0 x1)).bind fun bt204 => (if bt204.1 = 0 then (some (wrap64 (x1 + 1))) else (if bt204.1 = 4 then ((impl_typeEnd.f k x0 (wrap64 (x1 + 1))).bind fun t206 => (some t206)) else (if bt204.1 = 5 then (some (-1)) else ((impl_typeEnd.f k x0 (wrap64 (x1 + 1))).bind fun t207 => ((impl_typeEnd.f k x0 t207).bind fun t208 => (some t208))))))) else (none)) else (none))
def impl_typeEnd.f : Nat → List Int → Int → Option (Int)
 | 0, _, _ => none
 | k + 1, l0, a1 => if a1 < 0 then (impl_typeEnd.j0 k l0 a1 true) else (impl_typeEnd.j0 k l0 a1 (decide (a1 ≥ (l0.length : Int))))
end
set_option maxHeartbeats 8000000 in
set_option maxRecDepth 100000 in
theorem impl_typeEnd.calls (k : Nat) : ∀ (A0 : Option Addr) (c0 : Nat) (l0 : List Int) (a1 : Int) (r : Int) (w : World) (hr0 : Kd.C (Kd.int .i64) w A0 l0.length l0) (hc0 : l0.length ≤ c0) (h : impl_typeEnd.f k l0 a1 = some r),
  Calls Tryd.prog 33 #[.slice A0 l0.length c0, .int .i64 a1] w fun e w' => e = .returned (.int .i64 r) ∧ Drawn0 w w' := by
 induction k using Nat.strongRecOn with
 | _ k ih =>
 intro A0 c0 l0 a1 r w hr0 hc0 h
 cases k with
 | zero => exact absurd h (by simp [impl_typeEnd.f])
 | succ k =>
 simp only [impl_typeEnd.f] at h
 have HR0 := sd_ hr0
 have HC0 := sd_ hc0
 clear hr0 hc0
 have H : (if a1 < 0 then (impl_typeEnd.j0 k l0 a1 true) else (impl_typeEnd.j0 k l0 a1 (decide (a1 ≥ (l0.length : Int))))) = some r := h
 clear h
 have HC3 := sd_ H
 clear H
 go_enter Tryd.func33, Tryd.ntmps33
 go_upto_region 1 with (fail)
 go_cut [14] (fun v14 wc => ∃ (kq : Nat) (x14_2 : Bool), v14 = .bool x14_2 ∧ Aside0 (impl_typeEnd.j0 kq l0 a1 x14_2 = some r) ∧ Aside0 (kq ≤ k) ∧ Drawn0 w wc)
 case first =>
  have H := HC3.out
  clear HC3
  by_cases c4 : a1 < 0
  ·rw [if_pos c4] at H
   have c4b0 : decide (a1 < 0) = true := decide_eq_true c4
   clear c4
   (first | rw [c4b0] | (simp only [i64_w, i32_w]; rw [c4b0]) | skip)
   have H' := sd_ H
   clear H
   go_wp2
   go_meet
   case rel => exact ⟨_, (true), sm_, H', ⟨by first | omega | exact Nat.le_refl _⟩, by repeat (first | exact Drawn0.refl _ | apply Drawn0.step)⟩
  rw [if_neg c4] at H
  have c4b0 : decide (a1 < 0) = false := decide_eq_false c4
  clear c4
  (first | rw [c4b0] | (simp only [i64_w, i32_w]; rw [c4b0]) | skip)
  have H' := sd_ H
  clear H
  go_wp2
  go_meet
  case rel => exact ⟨_, (decide (a1 ≥ (l0.length : Int))), sm_, H', ⟨by first | omega | exact Nat.le_refl _⟩, by repeat (first | exact Drawn0.refl _ | apply Drawn0.step)⟩
 case rest =>
  clear HC3
  try clear c3
  obtain ⟨kq, x14_2, rfl, HA, HJ2, ⟨mc2, rfl⟩⟩ := hcut
  cases kq with
  | zero => exact absurd HA.out (by simp [impl_typeEnd.j0])
  | succ kj2 =>
   have H := HA.out
   clear HA
   simp only [impl_typeEnd.j0] at H
   by_cases c5 : x14_2 = true
   ·subst c5
    have H1 : (some (-1)) = some r := by rw [if_pos rfl] at H; exact H
    clear H
    have H := H1
    clear H1
    obtain rfl := Option.some.inj H
    go_wp2
    go_ret
    exact ⟨by first | rfl | (simp; done) | (simp [*]; done), by repeat (first | exact Drawn0.refl _ | apply Drawn0.step)⟩
   replace c5 := Bool.eq_false_iff.mpr c5
   subst c5
   have H1 : (if 0 ≤ a1 then (if a1 < (l0.length : Int) then ((impl_shape.f (rd l0 a1)).bind fun bt204 => (if bt204.1 = 0 then (some (wrap64 (a1 + 1))) else (if bt204.1 = 4 then ((impl_typeEnd.f kj2 l0 (wrap64 (a1 + 1))).bind fun t206 => (some t206)) else (if bt204.1 = 5 then (some (-1)) else ((impl_typeEnd.f kj2 l0 (wrap64 (a1 + 1))).bind fun t207 => ((impl_typeEnd.f kj2 l0 t207).bind fun t208 => (some t208))))))) else (none)) else (none)) = some r := by rw [if_neg (show ¬ (false = true) by decide)] at H; exact H
   clear H
   have H := H1
   clear H1
   by_cases c6 : 0 ≤ a1
   ·rw [if_pos c6] at H
    have c6b0 : decide (0 ≤ a1) = true := decide_eq_true c6
    clear c6
    by_cases c7 : a1 < (l0.length : Int)
    ·rw [if_pos c7] at H
     have c7b0 : decide (a1 < (l0.length : Int)) = true := decide_eq_true c7
     clear c7
     replace H := Option.bind_eq_some_iff.mp H
     obtain ⟨⟨t204, t205⟩, A80, H⟩ := H
     try dsimp only at H
     have A8 := sd_ A80
     clear A80
     by_cases c9 : t204 = 0
     ·rw [if_pos c9] at H
      have c9b0 : (t204 == 0) = true := beq_iff_eq.mpr c9
      have c9b1 : (t204 != 0) = false := bne_eq_false_iff_eq.mpr c9
      clear c9
      obtain rfl := Option.some.inj H
      have p203 : 0 ≤ (a1 : Int) := dt_
      have q203 : a1 < (l0.length : Int) := dt_
      obtain ⟨ad203, e203, hx203_0⟩ := Kd.at_int HR0.out a1 p203 q203
      cases e203
      replace p203 := eq_true p203
      replace q203 := eq_true q203
      go_wp2_with (first | ((with_reducible refine gate_callee (f := 46) rfl ?_); refine goesL_ (some 20) rfl rfl Tryd.func46 (by kernel_rfl) rfl #[.int .i64 (rd l0 a1)] rfl la_ ?_; (with_reducible refine (impl_shape.calls (rd l0 a1) t204 t205 _ A8.out).mono ?_); rintro e w' ⟨rfl, ⟨nd, rfl⟩⟩; refine ⟨_, rfl, ?_⟩))
      go_ret
      exact ⟨by first | rfl | (simp; done) | (simp [*]; done), by repeat (first | exact Drawn0.refl _ | apply Drawn0.step)⟩
     rw [if_neg c9] at H
     have c9b0 : (t204 == 0) = false := beq_eq_false_iff_ne.mpr c9
     have c9b1 : (t204 != 0) = true := bne_iff_ne.mpr c9
     by_cases c10 : t204 = 4
     ·rw [if_pos c10] at H
      have c10b0 : (t204 == 4) = true := beq_iff_eq.mpr c10
      have c10b1 : (t204 != 4) = false := bne_eq_false_iff_eq.mpr c10
      clear c10
      replace H := Option.bind_eq_some_iff.mp H
      obtain ⟨t206, A110, H⟩ := H
      try dsimp only at H
      have A11 := sd_ A110
      clear A110
      obtain rfl := Option.some.inj H
      have p203 : 0 ≤ (a1 : Int) := dt_
      have q203 : a1 < (l0.length : Int) := dt_
      obtain ⟨ad203, e203, hx203_0⟩ := Kd.at_int HR0.out a1 p203 q203
      cases e203
      replace p203 := eq_true p203
      replace q203 := eq_true q203
      go_wp2_with (first | ((with_reducible refine gate_callee (f := 46) rfl ?_); refine goesL_ (some 20) rfl rfl Tryd.func46 (by kernel_rfl) rfl #[.int .i64 (rd l0 a1)] rfl la_ ?_; (with_reducible refine (impl_shape.calls (rd l0 a1) t204 t205 _ A8.out).mono ?_); rintro e w' ⟨rfl, ⟨nd, rfl⟩⟩; refine ⟨_, rfl, ?_⟩) | ((with_reducible refine gate_callee (f := 33) rfl ?_); refine goesL_ (some 33) rfl rfl Tryd.func33 (by kernel_rfl) rfl #[.slice (some ad203) l0.length c0, .int .i64 (wrap64 (a1 + 1))] rfl la_ ?_; (with_reducible refine (ih kj2 (by have := HJ2.out; omega) _ _ l0 (wrap64 (a1 + 1)) t206 _ ?side1 ?side2 A11.out).mono ?_); (case side1 => exact kp_ HR0.out); (case side2 => exact HC0.out); rintro e w' ⟨rfl, ⟨nd, rfl⟩⟩; refine ⟨_, rfl, ?_⟩))
      go_ret
      exact ⟨by first | rfl | (simp; done) | (simp [*]; done), by repeat (first | exact Drawn0.refl _ | apply Drawn0.step)⟩
     rw [if_neg c10] at H
     have c10b0 : (t204 == 4) = false := beq_eq_false_iff_ne.mpr c10
     have c10b1 : (t204 != 4) = true := bne_iff_ne.mpr c10
     by_cases c12 : t204 = 5
     ·rw [if_pos c12] at H
      have c12b0 : (t204 == 5) = true := beq_iff_eq.mpr c12
      have c12b1 : (t204 != 5) = false := bne_eq_false_iff_eq.mpr c12
      clear c12
      obtain rfl := Option.some.inj H
      have p203 : 0 ≤ (a1 : Int) := dt_
      have q203 : a1 < (l0.length : Int) := dt_
      obtain ⟨ad203, e203, hx203_0⟩ := Kd.at_int HR0.out a1 p203 q203
      cases e203
      replace p203 := eq_true p203
      replace q203 := eq_true q203
      go_wp2_with (first | ((with_reducible refine gate_callee (f := 46) rfl ?_); refine goesL_ (some 20) rfl rfl Tryd.func46 (by kernel_rfl) rfl #[.int .i64 (rd l0 a1)] rfl la_ ?_; (with_reducible refine (impl_shape.calls (rd l0 a1) t204 t205 _ A8.out).mono ?_); rintro e w' ⟨rfl, ⟨nd, rfl⟩⟩; refine ⟨_, rfl, ?_⟩))
      go_ret
      exact ⟨by first | rfl | (simp; done) | (simp [*]; done), by repeat (first | exact Drawn0.refl _ | apply Drawn0.step)⟩
     rw [if_neg c12] at H
     have c12b0 : (t204 == 5) = false := beq_eq_false_iff_ne.mpr c12
     have c12b1 : (t204 != 5) = true := bne_iff_ne.mpr c12
     replace H := Option.bind_eq_some_iff.mp H
     obtain ⟨t207, A130, H⟩ := H
     try dsimp only at H
     have A13 := sd_ A130
     clear A130
     replace H := Option.bind_eq_some_iff.mp H
     obtain ⟨t208, A140, H⟩ := H
     try dsimp only at H
     have A14 := sd_ A140
     clear A140
     obtain rfl := Option.some.inj H
     have p203 : 0 ≤ (a1 : Int) := dt_
     have q203 : a1 < (l0.length : Int) := dt_
     obtain ⟨ad203, e203, hx203_0⟩ := Kd.at_int HR0.out a1 p203 q203
     cases e203
     replace p203 := eq_true p203
     replace q203 := eq_true q203
     go_wp2_with (first | ((with_reducible refine gate_callee (f := 46) rfl ?_); refine goesL_ (some 20) rfl rfl Tryd.func46 (by kernel_rfl) rfl #[.int .i64 (rd l0 a1)] rfl la_ ?_; (with_reducible refine (impl_shape.calls (rd l0 a1) t204 t205 _ A8.out).mono ?_); rintro e w' ⟨rfl, ⟨nd, rfl⟩⟩; refine ⟨_, rfl, ?_⟩) | ((with_reducible refine gate_callee (f := 33) rfl ?_); refine goesL_ (some 40) rfl rfl Tryd.func33 (by kernel_rfl) rfl #[.slice (some ad203) l0.length c0, .int .i64 (wrap64 (a1 + 1))] rfl la_ ?_; (with_reducible refine (ih kj2 (by have := HJ2.out; omega) _ _ l0 (wrap64 (a1 + 1)) t207 _ ?side1 ?side2 A13.out).mono ?_); (case side1 => exact kp_ HR0.out); (case side2 => exact HC0.out); rintro e w' ⟨rfl, ⟨nd, rfl⟩⟩; refine ⟨_, rfl, ?_⟩) | ((with_reducible refine gate_callee (f := 33) rfl ?_); refine goesL_ (some 41) rfl rfl Tryd.func33 (by kernel_rfl) rfl #[.slice (some ad203) l0.length c0, .int .i64 t207] rfl la_ ?_; (with_reducible refine (ih kj2 (by have := HJ2.out; omega) _ _ l0 t207 t208 _ ?side1 ?side2 A14.out).mono ?_); (case side1 => exact kp_ HR0.out); (case side2 => exact HC0.out); rintro e w' ⟨rfl, ⟨nd, rfl⟩⟩; refine ⟨_, rfl, ?_⟩))
     go_ret
     exact ⟨by first | rfl | (simp; done) | (simp [*]; done), by repeat (first | exact Drawn0.refl _ | apply Drawn0.step)⟩
    rw [if_neg c7] at H
    exact absurd H (by simp)
   rw [if_neg c6] at H
   exact absurd H (by simp)


/-! ### impl_isWrittenType: function 18 -/
def impl_isWrittenType.f (k : Nat) (l0 : List Int) : Option (Bool) := (impl_within.f (l0.length : Int) 1 40).bind fun t209 => (if t209 = true then ((impl_typeEnd.f k l0 0).bind fun t210 => (some (t210 == (l0.length : Int)))) else (some false))
set_option maxHeartbeats 8000000 in
set_option maxRecDepth 100000 in
theorem impl_isWrittenType.calls (k : Nat) (A0 : Option Addr) (c0 : Nat) (l0 : List Int) (r : Bool) (w : World) (hr0 : Kd.C (Kd.int .i64) w A0 l0.length l0) (hc0 : l0.length ≤ c0) (h : impl_isWrittenType.f k l0 = some r) :
  Calls Tryd.prog 18 #[.slice A0 l0.length c0] w fun e w' => e = .returned (.bool r) ∧ Drawn0 w w' := by
 have HR0 := sd_ hr0
 have HC0 := sd_ hc0
 clear hr0 hc0
 have H : ((impl_within.f (l0.length : Int) 1 40).bind fun t209 => (if t209 = true then ((impl_typeEnd.f k l0 0).bind fun t210 => (some (t210 == (l0.length : Int)))) else (some false))) = some r := h
 clear h
 replace H := Option.bind_eq_some_iff.mp H
 obtain ⟨t209, A20, H⟩ := H
 try dsimp only at H
 have A2 := sd_ A20
 clear A20
 by_cases c3 : t209 = true
 ·subst c3
  have H1 : ((impl_typeEnd.f k l0 0).bind fun t210 => (some (t210 == (l0.length : Int)))) = some r := by rw [if_pos rfl] at H; exact H
  clear H
  have H := H1
  clear H1
  replace H := Option.bind_eq_some_iff.mp H
  obtain ⟨t210, A40, H⟩ := H
  try dsimp only at H
  have A4 := sd_ A40
  clear A40
  obtain rfl := Option.some.inj H
  go_enter Tryd.func18, Tryd.ntmps18
  go_wp2_with (first | ((with_reducible refine gate_callee (f := 32) rfl ?_); refine goesL_ (some 5) rfl rfl Tryd.func32 (by kernel_rfl) rfl #[.int .i64 (l0.length : Int), .int .i64 1, .int .i64 40] rfl la_ ?_; (with_reducible refine (impl_within.calls (l0.length : Int) 1 40 true _ A2.out).mono ?_); rintro e w' ⟨rfl, ⟨nd, rfl⟩⟩; refine ⟨_, rfl, ?_⟩) | (go_at_call 33; (with_reducible refine (impl_typeEnd.calls k _ _ l0 0 t210 _ (kp_ HR0.out) HC0.out A4.out).mono ?_); rintro e w' ⟨rfl, ⟨nd, rfl⟩⟩))
  go_ret
  exact ⟨by first | rfl | (simp; done) | (simp [*]; done), by repeat (first | exact Drawn0.refl _ | apply Drawn0.step)⟩
 replace c3 := Bool.eq_false_iff.mpr c3
 subst c3
 have H1 : (some false) = some r := by rw [if_neg (show ¬ (false = true) by decide)] at H; exact H
 clear H
 have H := H1
 clear H1
 obtain rfl := Option.some.inj H
 go_enter Tryd.func18, Tryd.ntmps18
 go_wp2_with (first | ((with_reducible refine gate_callee (f := 32) rfl ?_); refine goesL_ (some 5) rfl rfl Tryd.func32 (by kernel_rfl) rfl #[.int .i64 (l0.length : Int), .int .i64 1, .int .i64 40] rfl la_ ?_; (with_reducible refine (impl_within.calls (l0.length : Int) 1 40 false _ A2.out).mono ?_); rintro e w' ⟨rfl, ⟨nd, rfl⟩⟩; refine ⟨_, rfl, ?_⟩))
 go_ret
 exact ⟨by first | rfl | (simp; done) | (simp [*]; done), by repeat (first | exact Drawn0.refl _ | apply Drawn0.step)⟩


/-! ### impl_codeText: function 35 -/
def impl_codeText.f (a0 : Int) : Option (ByteArray) := (impl_shape.f a0).bind fun bt257 => (if bt257.1 = 0 then (some (⟨#[110]⟩ : ByteArray)) else (if bt257.1 = 1 then (some (⟨#[42]⟩ : ByteArray)) else (if bt257.1 = 2 then (some (⟨#[43]⟩ : ByteArray)) else (if bt257.1 = 3 then ((impl_gradeText.f bt257.2).bind fun t259 => (if 1 + t259.size ≤ 9223372036854775807 then (if ((⟨#[62]⟩ : ByteArray) ++ t259).size + 1 ≤ 9223372036854775807 then (some (((⟨#[62]⟩ : ByteArray) ++ t259) ++ (⟨#[46]⟩ : ByteArray))) else (none)) else (none))) else ((impl_gradeText.f bt257.2).bind fun t260 => (if 1 + t260.size ≤ 9223372036854775807 then (if ((⟨#[33]⟩ : ByteArray) ++ t260).size + 1 ≤ 9223372036854775807 then (some (((⟨#[33]⟩ : ByteArray) ++ t260) ++ (⟨#[46]⟩ : ByteArray))) else (none)) else (none)))))))
set_option maxHeartbeats 8000000 in
set_option maxRecDepth 100000 in
theorem impl_codeText.calls (a0 : Int) (r : ByteArray) (w : World) (h : impl_codeText.f a0 = some r) :
  Calls Tryd.prog 35 #[.int .i64 a0] w fun e w' => e = .returned (.string r) ∧ Drawn0 w w' := by
 have H : ((impl_shape.f a0).bind fun bt257 => (if bt257.1 = 0 then (some (⟨#[110]⟩ : ByteArray)) else (if bt257.1 = 1 then (some (⟨#[42]⟩ : ByteArray)) else (if bt257.1 = 2 then (some (⟨#[43]⟩ : ByteArray)) else (if bt257.1 = 3 then ((impl_gradeText.f bt257.2).bind fun t259 => (if 1 + t259.size ≤ 9223372036854775807 then (if ((⟨#[62]⟩ : ByteArray) ++ t259).size + 1 ≤ 9223372036854775807 then (some (((⟨#[62]⟩ : ByteArray) ++ t259) ++ (⟨#[46]⟩ : ByteArray))) else (none)) else (none))) else ((impl_gradeText.f bt257.2).bind fun t260 => (if 1 + t260.size ≤ 9223372036854775807 then (if ((⟨#[33]⟩ : ByteArray) ++ t260).size + 1 ≤ 9223372036854775807 then (some (((⟨#[33]⟩ : ByteArray) ++ t260) ++ (⟨#[46]⟩ : ByteArray))) else (none)) else (none)))))))) = some r := h
 clear h
 replace H := Option.bind_eq_some_iff.mp H
 obtain ⟨⟨t257, t258⟩, A20, H⟩ := H
 try dsimp only at H
 have A2 := sd_ A20
 clear A20
 by_cases c3 : t257 = 0
 ·rw [if_pos c3] at H
  have c3b0 : (t257 == 0) = true := beq_iff_eq.mpr c3
  have c3b1 : (t257 != 0) = false := bne_eq_false_iff_eq.mpr c3
  clear c3
  obtain rfl := Option.some.inj H
  go_enter Tryd.func35, Tryd.ntmps35
  go_wp2_with (first | ((with_reducible refine gate_callee (f := 46) rfl ?_); refine goesL_ (some 7) rfl rfl Tryd.func46 (by kernel_rfl) rfl #[.int .i64 a0] rfl la_ ?_; (with_reducible refine (impl_shape.calls a0 t257 t258 _ A2.out).mono ?_); rintro e w' ⟨rfl, ⟨nd, rfl⟩⟩; refine ⟨_, rfl, ?_⟩))
  go_ret
  exact ⟨by first | rfl | (simp; done) | (simp [*]; done), by repeat (first | exact Drawn0.refl _ | apply Drawn0.step)⟩
 rw [if_neg c3] at H
 have c3b0 : (t257 == 0) = false := beq_eq_false_iff_ne.mpr c3
 have c3b1 : (t257 != 0) = true := bne_iff_ne.mpr c3
 by_cases c4 : t257 = 1
 ·rw [if_pos c4] at H
  have c4b0 : (t257 == 1) = true := beq_iff_eq.mpr c4
  have c4b1 : (t257 != 1) = false := bne_eq_false_iff_eq.mpr c4
  clear c4
  obtain rfl := Option.some.inj H
  go_enter Tryd.func35, Tryd.ntmps35
  go_wp2_with (first | ((with_reducible refine gate_callee (f := 46) rfl ?_); refine goesL_ (some 7) rfl rfl Tryd.func46 (by kernel_rfl) rfl #[.int .i64 a0] rfl la_ ?_; (with_reducible refine (impl_shape.calls a0 t257 t258 _ A2.out).mono ?_); rintro e w' ⟨rfl, ⟨nd, rfl⟩⟩; refine ⟨_, rfl, ?_⟩))
  go_ret
  exact ⟨by first | rfl | (simp; done) | (simp [*]; done), by repeat (first | exact Drawn0.refl _ | apply Drawn0.step)⟩
 rw [if_neg c4] at H
 have c4b0 : (t257 == 1) = false := beq_eq_false_iff_ne.mpr c4
 have c4b1 : (t257 != 1) = true := bne_iff_ne.mpr c4
 by_cases c5 : t257 = 2
 ·rw [if_pos c5] at H
  have c5b0 : (t257 == 2) = true := beq_iff_eq.mpr c5
  have c5b1 : (t257 != 2) = false := bne_eq_false_iff_eq.mpr c5
  clear c5
  obtain rfl := Option.some.inj H
  go_enter Tryd.func35, Tryd.ntmps35
  go_wp2_with (first | ((with_reducible refine gate_callee (f := 46) rfl ?_); refine goesL_ (some 7) rfl rfl Tryd.func46 (by kernel_rfl) rfl #[.int .i64 a0] rfl la_ ?_; (with_reducible refine (impl_shape.calls a0 t257 t258 _ A2.out).mono ?_); rintro e w' ⟨rfl, ⟨nd, rfl⟩⟩; refine ⟨_, rfl, ?_⟩))
  go_ret
  exact ⟨by first | rfl | (simp; done) | (simp [*]; done), by repeat (first | exact Drawn0.refl _ | apply Drawn0.step)⟩
 rw [if_neg c5] at H
 have c5b0 : (t257 == 2) = false := beq_eq_false_iff_ne.mpr c5
 have c5b1 : (t257 != 2) = true := bne_iff_ne.mpr c5
 by_cases c6 : t257 = 3
 ·rw [if_pos c6] at H
  have c6b0 : (t257 == 3) = true := beq_iff_eq.mpr c6
  have c6b1 : (t257 != 3) = false := bne_eq_false_iff_eq.mpr c6
  clear c6
  replace H := Option.bind_eq_some_iff.mp H
  obtain ⟨t259, A70, H⟩ := H
  try dsimp only at H
  have A7 := sd_ A70
  clear A70
  by_cases c8 : 1 + t259.size ≤ 9223372036854775807
  ·rw [if_pos c8] at H
   have c8b0 := eq_true c8
   have c8b1 : decide (1 + t259.size ≤ 9223372036854775807) = true := decide_eq_true c8
   try have c8b2 : (9223372036854775807 < 1 + t259.size) = False := eq_false (Nat.not_lt.2 c8)
   by_cases c9 : ((⟨#[62]⟩ : ByteArray) ++ t259).size + 1 ≤ 9223372036854775807
   ·rw [if_pos c9] at H
    have c9b0 := eq_true c9
    have c9b1 : decide (((⟨#[62]⟩ : ByteArray) ++ t259).size + 1 ≤ 9223372036854775807) = true := decide_eq_true c9
    try have c9b2 : (9223372036854775807 < ((⟨#[62]⟩ : ByteArray) ++ t259).size + 1) = False := eq_false (Nat.not_lt.2 c9)
    have c9b3 := eq_false (Nat.not_lt.2 c9)
    simp only [ByteArray.size_append, show (⟨#[62]⟩ : ByteArray).size = 1 from rfl] at c9b3
    obtain rfl := Option.some.inj H
    go_enter Tryd.func35, Tryd.ntmps35
    go_wp2_with (first | ((with_reducible refine gate_callee (f := 46) rfl ?_); refine goesL_ (some 7) rfl rfl Tryd.func46 (by kernel_rfl) rfl #[.int .i64 a0] rfl la_ ?_; (with_reducible refine (impl_shape.calls a0 t257 t258 _ A2.out).mono ?_); rintro e w' ⟨rfl, ⟨nd, rfl⟩⟩; refine ⟨_, rfl, ?_⟩) | ((with_reducible refine gate_callee (f := 44) rfl ?_); refine goesL_ (some 20) rfl rfl Tryd.func44 (by kernel_rfl) rfl #[.int .i64 t258] rfl la_ ?_; (with_reducible refine (impl_gradeText.calls t258 t259 _ A7.out).mono ?_); rintro e w' ⟨rfl, ⟨nd, rfl⟩⟩; refine ⟨_, rfl, ?_⟩))
    go_ret
    exact ⟨by first | rfl | (simp; done) | (simp [*]; done), by repeat (first | exact Drawn0.refl _ | apply Drawn0.step)⟩
   rw [if_neg c9] at H
   exact absurd H (by simp)
  rw [if_neg c8] at H
  exact absurd H (by simp)
 rw [if_neg c6] at H
 have c6b0 : (t257 == 3) = false := beq_eq_false_iff_ne.mpr c6
 have c6b1 : (t257 != 3) = true := bne_iff_ne.mpr c6
 replace H := Option.bind_eq_some_iff.mp H
 obtain ⟨t260, A100, H⟩ := H
 try dsimp only at H
 have A10 := sd_ A100
 clear A100
 by_cases c11 : 1 + t260.size ≤ 9223372036854775807
 ·rw [if_pos c11] at H
  have c11b0 := eq_true c11
  have c11b1 : decide (1 + t260.size ≤ 9223372036854775807) = true := decide_eq_true c11
  try have c11b2 : (9223372036854775807 < 1 + t260.size) = False := eq_false (Nat.not_lt.2 c11)
  by_cases c12 : ((⟨#[33]⟩ : ByteArray) ++ t260).size + 1 ≤ 9223372036854775807
  ·rw [if_pos c12] at H
   have c12b0 := eq_true c12
   have c12b1 : decide (((⟨#[33]⟩ : ByteArray) ++ t260).size + 1 ≤ 9223372036854775807) = true := decide_eq_true c12
   try have c12b2 : (9223372036854775807 < ((⟨#[33]⟩ : ByteArray) ++ t260).size + 1) = False := eq_false (Nat.not_lt.2 c12)
   have c12b3 := eq_false (Nat.not_lt.2 c12)
   simp only [ByteArray.size_append, show (⟨#[33]⟩ : ByteArray).size = 1 from rfl] at c12b3
   obtain rfl := Option.some.inj H
   go_enter Tryd.func35, Tryd.ntmps35
   go_wp2_with (first | ((with_reducible refine gate_callee (f := 46) rfl ?_); refine goesL_ (some 7) rfl rfl Tryd.func46 (by kernel_rfl) rfl #[.int .i64 a0] rfl la_ ?_; (with_reducible refine (impl_shape.calls a0 t257 t258 _ A2.out).mono ?_); rintro e w' ⟨rfl, ⟨nd, rfl⟩⟩; refine ⟨_, rfl, ?_⟩) | ((with_reducible refine gate_callee (f := 44) rfl ?_); refine goesL_ (some 24) rfl rfl Tryd.func44 (by kernel_rfl) rfl #[.int .i64 t258] rfl la_ ?_; (with_reducible refine (impl_gradeText.calls t258 t260 _ A10.out).mono ?_); rintro e w' ⟨rfl, ⟨nd, rfl⟩⟩; refine ⟨_, rfl, ?_⟩))
   go_ret
   exact ⟨by first | rfl | (simp; done) | (simp [*]; done), by repeat (first | exact Drawn0.refl _ | apply Drawn0.step)⟩
  rw [if_neg c12] at H
  exact absurd H (by simp)
 rw [if_neg c11] at H
 exact absurd H (by simp)

end Go.Proofs.YtlhiacnmcckjgaaDoor.P
end

section
namespace Go.Proofs.YtlhiacnmcckjgaaDoor.P
open Go.RowKit Go.Proofs.YtlhiacnmcckjgaaDoorW.PrintWords Go.Proofs.YtlhiacnmcckjgaaDoorW.PrintLast Go.Proofs.YtlhiacnmcckjgaaDoorW.PrintMore
set_option linter.unusedVariables false
set_option linter.unusedSimpArgs false
/-! ### impl_typeText: function 19 (by hand) -/
theorem strCells_app (s t : ByteArray) : Go.Lib.strCells (s ++ t) = Go.Lib.strCells s ++ Go.Lib.strCells t := by
 have h : (s ++ t).data.toList = s.data.toList ++ t.data.toList := by simp [ByteArray.data_append]
 unfold Go.Lib.strCells; rw [h, List.map_append]
def impl_typeText.l0 : Nat → List Int → ByteArray → Int → Option ByteArray
 | 0, _, _, _ => none
 | k + 1, x0, x3, x8 => if x8 < (x0.length : Int) then (if 0 ≤ x8 then ((impl_codeText.f (rd x0 x8)).bind fun t => (if x3.size + t.size ≤ 140737488355328 then (impl_typeText.l0 k x0 (x3 ++ t) (wrap64 (x8 + 1))) else none)) else none) else some x3
def impl_typeText.f (k : Nat) (l0 : List Int) : Option ByteArray := impl_typeText.l0 k l0 (⟨#[]⟩ : ByteArray) 0
set_option maxHeartbeats 8000000 in
set_option maxRecDepth 100000 in
theorem impl_typeText.calls (k : Nat) (A0 : Option Addr) (c0 : Nat) (l0 : List Int) (r : ByteArray) (w : World) (hr0 : Kd.C (Kd.int .i64) w A0 l0.length l0) (hc0 : l0.length ≤ c0) (h : impl_typeText.f k l0 = some r) :
  Calls Tryd.prog 19 #[.slice A0 l0.length c0] w fun e w' => e = .returned (.string r) ∧ Below w.heap.size w w' := by
 have HR0 := sd_ hr0
 have HC0 := sd_ hc0
 clear hr0 hc0
 have H' := sd_ (show impl_typeText.l0 k l0 (⟨#[]⟩ : ByteArray) 0 = some r from h)
 clear h
 go_enter Tryd.func19, Tryd.ntmps19
 go_wp2
 go_loopg [8] k (fun kq v8 wr => ∃ (x3_1 : ByteArray) (x8_1 : Int), v8 = .int .i64 x8_1 ∧ Aside0 (impl_typeText.l0 kq l0 x3_1 x8_1 = some r) ∧ Aside0 (kq ≤ k) ∧ Aside0 (Go.Lib.IsBuilder 48 5 w.heap.size w.heap.size (Go.Lib.strCells x3_1) wr) ∧ Aside0 (Below w.heap.size w wr))
 case atStart => exact ⟨⟨#[]⟩, 0, rfl, H', ⟨Nat.le_refl _⟩, ⟨Go.Lib.fresh_isBuilder 48 5 w⟩, ⟨below_alloc (Below.refl w.heap.size w) _⟩⟩
 case round =>
  clear H'
  obtain ⟨x3_1, x8_1, rfl, HA, HK1, HI, HB⟩ := hrel
  cases gk with
  | zero => exact absurd HA.out (by simp [impl_typeText.l0])
  | succ k1 =>
   have H := HA.out
   clear HA
   simp only [impl_typeText.l0] at H
   by_cases c4 : x8_1 < (l0.length : Int)
   ·rw [if_pos c4] at H
    have c4b0 : decide (x8_1 < (l0.length : Int)) = true := decide_eq_true c4
    by_cases c5 : 0 ≤ x8_1
    ·rw [if_pos c5] at H
     have c5b0 : decide (0 ≤ x8_1) = true := decide_eq_true c5
     replace H := Option.bind_eq_some_iff.mp H
     obtain ⟨t, A60, H⟩ := H
     have A6 := sd_ A60
     clear A60
     by_cases c7 : x3_1.size + t.size ≤ 140737488355328
     ·rw [if_pos c7] at H
      have LM := sd_ c7
      clear c7
      have H' := sd_ H
      clear H
      obtain ⟨ad114, e114, hx114_0⟩ := Kd.at_int HR0.out x8_1 c5 c4
      cases e114
      replace hx114_0 := (HB.out.cell (World.block_lt_of_cell? w _ hx114_0)).trans hx114_0
      have p114 := eq_true c5
      have q114 := eq_true c4
      clear c4 c5
      go_wp2_with (first | ((with_reducible refine gate_callee (f := 35) rfl ?_); refine goesL_ (some 13) rfl rfl Tryd.func35 (by kernel_rfl) rfl #[.int .i64 (rd l0 x8_1)] rfl la_ ?_; (with_reducible refine (impl_codeText.calls (rd l0 x8_1) t _ A6.out).mono ?_); rintro e w' ⟨rfl, ⟨nd, rfl⟩⟩; refine ⟨_, rfl, ?_⟩) | ((with_reducible refine gate_callee (f := 34) rfl ?_); refine goesL_ (some 14) rfl rfl Tryd.func34 (by kernel_rfl) rfl #[.pointer (some ⟨w.heap.size, 0, none⟩), .string t] rfl la_ ?_; (refine (builder_write w.heap.size w.heap.size (Go.Lib.strCells x3_1) t _ ?side1 ?side2 ?side3).mono ?_); (case side1 => exact HI.out); (case side2 => rw [Go.Lib.strCells_length]; exact LM.out); (case side3 => exact below_size (bw0_ HB.out)); rintro e w2 ⟨rfl, h1, b1⟩; refine ⟨_, rfl, ?_⟩; have HI2 := sd_ (show Go.Lib.IsBuilder 48 5 w.heap.size w.heap.size (Go.Lib.strCells (x3_1 ++ t)) w2 from by rw [strCells_app]; exact Or.inr h1); have HB2 := sd_ (show Below w.heap.size w w2 from Below.trans (bw0_ HB.out) b1); clear h1 b1 HI HB))
      go_roundg k1
      case measure => have := HK1.out; omega
      case rel => exact ⟨x3_1 ++ t, wrap64 (x8_1 + 1), sm_, H', ⟨by have := HK1.out; omega⟩, ⟨HI2.out⟩, ⟨HB2.out⟩⟩
     rw [if_neg c7] at H
     exact absurd H (by simp)
    rw [if_neg c5] at H
    exact absurd H (by simp)
   rw [if_neg c4] at H
   have c4b0 : decide (x8_1 < (l0.length : Int)) = false := decide_eq_false c4
   clear c4
   obtain rfl := Option.some.inj H
   go_wp2_with (first | ((with_reducible refine gate_callee (f := 27) rfl ?_); refine goesL_ (some 16) rfl rfl Tryd.func27 (by kernel_rfl) rfl #[.pointer (some ⟨w.heap.size, 0, none⟩)] rfl la_ ?_; (refine (builder_string w.heap.size w.heap.size x3_1.data.toList _ ?side1 ?side2).mono ?_); (case side1 => exact HI.out); (case side2 => exact below_size (bw0_ HB.out)); rintro e w2 ⟨rfl, b1⟩; refine ⟨_, rfl, ?_⟩; have HB2 := sd_ (show Below w.heap.size w w2 from Below.trans (bw0_ HB.out) b1); clear b1))
   go_ret
   exact ⟨by first | rfl | (simp; done), bw0_ HB2.out⟩
end Go.Proofs.YtlhiacnmcckjgaaDoor.P
end

section
namespace Go.Proofs.YtlhiacnmcckjgaaDoor.P
open Go.RowKit Go.Proofs.YtlhiacnmcckjgaaDoorW.PrintWords Go.Proofs.YtlhiacnmcckjgaaDoorW.PrintLast Go.Proofs.YtlhiacnmcckjgaaDoorW.PrintMore
attribute [local go_sem] max2_int min2_int max_two min_two max_three min_three max_four min_four   -- for this text's walks alone
set_option linter.unusedVariables false
set_option linter.unusedSimpArgs false

/-! ### spec_l2Adds: function 49 -/
def spec_l2Adds.j0 : Nat → Int → Int → Bool → Option (Int)
 | 0, _, _, _ => none
 | k + 1, x0, x1, x5 => if x5 = true then (some 2) else (if x0 = 8 then (if x1 > 0 then (some 1) else (if x0 = 9 then (some 1) else (if x0 = 12 then (if x1 = 1 then (some 1) else (some 0)) else (some 0)))) else (if x0 = 9 then (some 1) else (if x0 = 12 then (if x1 = 1 then (some 1) else (some 0)) else (some 0))))
def spec_l2Adds.f (k : Nat) (a0 : Int) (a1 : Int) : Option (Int) := if a0 = 5 then (spec_l2Adds.j0 k a0 a1 (a1 == 1)) else (spec_l2Adds.j0 k a0 a1 false)
set_option maxHeartbeats 8000000 in
set_option maxRecDepth 100000 in
theorem spec_l2Adds.calls (k : Nat) (a0 : Int) (a1 : Int) (r : Int) (w : World) (h : spec_l2Adds.f k a0 a1 = some r) :
  Calls Tryd.prog 49 #[.int .i64 a0, .int .i64 a1] w fun e w' => e = .returned (.int .i64 r) ∧ Drawn0 w w' := by
 have H : (if a0 = 5 then (spec_l2Adds.j0 k a0 a1 (a1 == 1)) else (spec_l2Adds.j0 k a0 a1 false)) = some r := h
 clear h
 have HC3 := sd_ H
 clear H
 go_enter Tryd.func49, Tryd.ntmps49
 go_upto_region 1 with (fail)
 go_cut [5] (fun v5 wc => ∃ (kq : Nat) (x5_2 : Bool), v5 = .bool x5_2 ∧ Aside0 (spec_l2Adds.j0 kq a0 a1 x5_2 = some r) ∧ Aside0 (kq ≤ k) ∧ Drawn0 w wc)
 case first =>
  have H := HC3.out
  clear HC3
  by_cases c4 : a0 = 5
  ·rw [if_pos c4] at H
   have c4b0 : (a0 == 5) = true := beq_iff_eq.mpr c4
   have c4b1 : (a0 != 5) = false := bne_eq_false_iff_eq.mpr c4
   clear c4
   (first | rw [c4b0] | (simp only [i64_w, i32_w]; rw [c4b0]) | skip)
   have H' := sd_ H
   clear H
   go_wp2
   go_meet
   case rel => exact ⟨_, ((a1 == 1)), sm_, H', ⟨by first | omega | exact Nat.le_refl _⟩, by repeat (first | exact Drawn0.refl _ | apply Drawn0.step)⟩
  rw [if_neg c4] at H
  have c4b0 : (a0 == 5) = false := beq_eq_false_iff_ne.mpr c4
  have c4b1 : (a0 != 5) = true := bne_iff_ne.mpr c4
  (first | rw [c4b0] | (simp only [i64_w, i32_w]; rw [c4b0]) | skip)
  have H' := sd_ H
  clear H
  go_wp2
  go_meet
  case rel => exact ⟨_, (false), sm_, H', ⟨by first | omega | exact Nat.le_refl _⟩, by repeat (first | exact Drawn0.refl _ | apply Drawn0.step)⟩
 case rest =>
  clear HC3
  try clear c4
  obtain ⟨kq, x5_2, rfl, HA, HJ2, ⟨mc2, rfl⟩⟩ := hcut
  cases kq with
  | zero => exact absurd HA.out (by simp [spec_l2Adds.j0])
  | succ kj2 =>
   have H := HA.out
   clear HA
   simp only [spec_l2Adds.j0] at H
   by_cases c5 : x5_2 = true
   ·subst c5
    have H1 : (some 2) = some r := by rw [if_pos rfl] at H; exact H
    clear H
    have H := H1
    clear H1
    obtain rfl := Option.some.inj H
    go_wp2
    go_ret
    exact ⟨by first | rfl | (simp; done) | (simp [*]; done), by repeat (first | exact Drawn0.refl _ | apply Drawn0.step)⟩
   replace c5 := Bool.eq_false_iff.mpr c5
   subst c5
   have H1 : (if a0 = 8 then (if a1 > 0 then (some 1) else (if a0 = 9 then (some 1) else (if a0 = 12 then (if a1 = 1 then (some 1) else (some 0)) else (some 0)))) else (if a0 = 9 then (some 1) else (if a0 = 12 then (if a1 = 1 then (some 1) else (some 0)) else (some 0)))) = some r := by rw [if_neg (show ¬ (false = true) by decide)] at H; exact H
   clear H
   have H := H1
   clear H1
   by_cases c6 : a0 = 8
   ·rw [if_pos c6] at H
    have c6b0 : (a0 == 8) = true := beq_iff_eq.mpr c6
    have c6b1 : (a0 != 8) = false := bne_eq_false_iff_eq.mpr c6
    clear c6
    by_cases c7 : a1 > 0
    ·rw [if_pos c7] at H
     have c7b0 : decide (0 < a1) = true := decide_eq_true c7
     clear c7
     obtain rfl := Option.some.inj H
     go_wp2
     go_ret
     exact ⟨by first | rfl | (simp; done) | (simp [*]; done), by repeat (first | exact Drawn0.refl _ | apply Drawn0.step)⟩
    rw [if_neg c7] at H
    have c7b0 : decide (0 < a1) = false := decide_eq_false c7
    clear c7
    by_cases c8 : a0 = 9
    ·rw [if_pos c8] at H
     have c8b0 : (a0 == 9) = true := beq_iff_eq.mpr c8
     have c8b1 : (a0 != 9) = false := bne_eq_false_iff_eq.mpr c8
     clear c8
     obtain rfl := Option.some.inj H
     go_wp2
     go_ret
     exact ⟨by first | rfl | (simp; done) | (simp [*]; done), by repeat (first | exact Drawn0.refl _ | apply Drawn0.step)⟩
    rw [if_neg c8] at H
    have c8b0 : (a0 == 9) = false := beq_eq_false_iff_ne.mpr c8
    have c8b1 : (a0 != 9) = true := bne_iff_ne.mpr c8
    by_cases c9 : a0 = 12
    ·rw [if_pos c9] at H
     have c9b0 : (a0 == 12) = true := beq_iff_eq.mpr c9
     have c9b1 : (a0 != 12) = false := bne_eq_false_iff_eq.mpr c9
     clear c9
     by_cases c10 : a1 = 1
     ·rw [if_pos c10] at H
      have c10b0 : (a1 == 1) = true := beq_iff_eq.mpr c10
      have c10b1 : (a1 != 1) = false := bne_eq_false_iff_eq.mpr c10
      clear c10
      obtain rfl := Option.some.inj H
      go_wp2
      go_ret
      exact ⟨by first | rfl | (simp; done) | (simp [*]; done), by repeat (first | exact Drawn0.refl _ | apply Drawn0.step)⟩
     rw [if_neg c10] at H
     have c10b0 : (a1 == 1) = false := beq_eq_false_iff_ne.mpr c10
     have c10b1 : (a1 != 1) = true := bne_iff_ne.mpr c10
     obtain rfl := Option.some.inj H
     go_wp2
     go_ret
     exact ⟨by first | rfl | (simp; done) | (simp [*]; done), by repeat (first | exact Drawn0.refl _ | apply Drawn0.step)⟩
    rw [if_neg c9] at H
    have c9b0 : (a0 == 12) = false := beq_eq_false_iff_ne.mpr c9
    have c9b1 : (a0 != 12) = true := bne_iff_ne.mpr c9
    obtain rfl := Option.some.inj H
    go_wp2
    go_ret
    exact ⟨by first | rfl | (simp; done) | (simp [*]; done), by repeat (first | exact Drawn0.refl _ | apply Drawn0.step)⟩
   rw [if_neg c6] at H
   have c6b0 : (a0 == 8) = false := beq_eq_false_iff_ne.mpr c6
   have c6b1 : (a0 != 8) = true := bne_iff_ne.mpr c6
   by_cases c11 : a0 = 9
   ·rw [if_pos c11] at H
    have c11b0 : (a0 == 9) = true := beq_iff_eq.mpr c11
    have c11b1 : (a0 != 9) = false := bne_eq_false_iff_eq.mpr c11
    clear c11
    obtain rfl := Option.some.inj H
    go_wp2
    go_ret
    exact ⟨by first | rfl | (simp; done) | (simp [*]; done), by repeat (first | exact Drawn0.refl _ | apply Drawn0.step)⟩
   rw [if_neg c11] at H
   have c11b0 : (a0 == 9) = false := beq_eq_false_iff_ne.mpr c11
   have c11b1 : (a0 != 9) = true := bne_iff_ne.mpr c11
   by_cases c12 : a0 = 12
   ·rw [if_pos c12] at H
    have c12b0 : (a0 == 12) = true := beq_iff_eq.mpr c12
    have c12b1 : (a0 != 12) = false := bne_eq_false_iff_eq.mpr c12
    clear c12
    by_cases c13 : a1 = 1
    ·rw [if_pos c13] at H
     have c13b0 : (a1 == 1) = true := beq_iff_eq.mpr c13
     have c13b1 : (a1 != 1) = false := bne_eq_false_iff_eq.mpr c13
     clear c13
     obtain rfl := Option.some.inj H
     go_wp2
     go_ret
     exact ⟨by first | rfl | (simp; done) | (simp [*]; done), by repeat (first | exact Drawn0.refl _ | apply Drawn0.step)⟩
    rw [if_neg c13] at H
    have c13b0 : (a1 == 1) = false := beq_eq_false_iff_ne.mpr c13
    have c13b1 : (a1 != 1) = true := bne_iff_ne.mpr c13
    obtain rfl := Option.some.inj H
    go_wp2
    go_ret
    exact ⟨by first | rfl | (simp; done) | (simp [*]; done), by repeat (first | exact Drawn0.refl _ | apply Drawn0.step)⟩
   rw [if_neg c12] at H
   have c12b0 : (a0 == 12) = false := beq_eq_false_iff_ne.mpr c12
   have c12b1 : (a0 != 12) = true := bne_iff_ne.mpr c12
   obtain rfl := Option.some.inj H
   go_wp2
   go_ret
   exact ⟨by first | rfl | (simp; done) | (simp [*]; done), by repeat (first | exact Drawn0.refl _ | apply Drawn0.step)⟩


/-! ### spec_l2Box: function 53 -/
def spec_l2Box.f (a0 : Int) : Option (Bool) := (spec_l1In.f a0 19 34).bind fun t110 => (if t110 = true then (some true) else (some (a0 == 36)))
set_option maxHeartbeats 8000000 in
set_option maxRecDepth 100000 in
theorem spec_l2Box.calls (a0 : Int) (r : Bool) (w : World) (h : spec_l2Box.f a0 = some r) :
  Calls Tryd.prog 53 #[.int .i64 a0] w fun e w' => e = .returned (.bool r) ∧ Drawn0 w w' := by
 have H : ((spec_l1In.f a0 19 34).bind fun t110 => (if t110 = true then (some true) else (some (a0 == 36)))) = some r := h
 clear h
 replace H := Option.bind_eq_some_iff.mp H
 obtain ⟨t110, A20, H⟩ := H
 try dsimp only at H
 have A2 := sd_ A20
 clear A20
 by_cases c3 : t110 = true
 ·subst c3
  have H1 : (some true) = some r := by rw [if_pos rfl] at H; exact H
  clear H
  have H := H1
  clear H1
  obtain rfl := Option.some.inj H
  go_enter Tryd.func53, Tryd.ntmps53
  go_wp2_with (first | ((with_reducible refine gate_callee (f := 30) rfl ?_); refine goesL_ (some 4) rfl rfl Tryd.func30 (by kernel_rfl) rfl #[.int .i64 a0, .int .i64 19, .int .i64 34] rfl la_ ?_; (with_reducible refine (spec_l1In.calls a0 19 34 true _ A2.out).mono ?_); rintro e w' ⟨rfl, ⟨nd, rfl⟩⟩; refine ⟨_, rfl, ?_⟩))
  go_ret
  exact ⟨by first | rfl | (simp; done) | (simp [*]; done), by repeat (first | exact Drawn0.refl _ | apply Drawn0.step)⟩
 replace c3 := Bool.eq_false_iff.mpr c3
 subst c3
 have H1 : (some (a0 == 36)) = some r := by rw [if_neg (show ¬ (false = true) by decide)] at H; exact H
 clear H
 have H := H1
 clear H1
 obtain rfl := Option.some.inj H
 go_enter Tryd.func53, Tryd.ntmps53
 go_wp2_with (first | ((with_reducible refine gate_callee (f := 30) rfl ?_); refine goesL_ (some 4) rfl rfl Tryd.func30 (by kernel_rfl) rfl #[.int .i64 a0, .int .i64 19, .int .i64 34] rfl la_ ?_; (with_reducible refine (spec_l1In.calls a0 19 34 false _ A2.out).mono ?_); rintro e w' ⟨rfl, ⟨nd, rfl⟩⟩; refine ⟨_, rfl, ?_⟩))
 go_ret
 exact ⟨by first | rfl | (simp; done) | (simp [*]; done), by repeat (first | exact Drawn0.refl _ | apply Drawn0.step)⟩


/-! ### spec_l2Kids: function 45 -/
def spec_l2Kids.j0 : Nat → Int → Bool → Option (Int)
 | 0, _, _ => none
 | k + 1, x0, x6 => if x6 = true then (some 2) else ((spec_l2Box.f x0).bind fun t112 => (if t112 = true then (some 1) else (some (-1))))
def spec_l2Kids.f (k : Nat) (a0 : Int) : Option (Int) := if a0 = 0 then (some 0) else (if a0 = 1 then (spec_l2Kids.j0 k a0 true) else (if a0 = 2 then (spec_l2Kids.j0 k a0 true) else ((spec_l2Arrow.f a0).bind fun t111 => (spec_l2Kids.j0 k a0 t111))))
set_option maxHeartbeats 8000000 in
set_option maxRecDepth 100000 in
theorem spec_l2Kids.calls (k : Nat) (a0 : Int) (r : Int) (w : World) (h : spec_l2Kids.f k a0 = some r) :
  Calls Tryd.prog 45 #[.int .i64 a0] w fun e w' => e = .returned (.int .i64 r) ∧ Drawn0 w w' := by
 have H : (if a0 = 0 then (some 0) else (if a0 = 1 then (spec_l2Kids.j0 k a0 true) else (if a0 = 2 then (spec_l2Kids.j0 k a0 true) else ((spec_l2Arrow.f a0).bind fun t111 => (spec_l2Kids.j0 k a0 t111))))) = some r := h
 clear h
 by_cases c2 : a0 = 0
 ·rw [if_pos c2] at H
  have c2b0 : (a0 == 0) = true := beq_iff_eq.mpr c2
  have c2b1 : (a0 != 0) = false := bne_eq_false_iff_eq.mpr c2
  clear c2
  obtain rfl := Option.some.inj H
  go_enter Tryd.func45, Tryd.ntmps45
  go_wp2
  go_ret
  exact ⟨by first | rfl | (simp; done) | (simp [*]; done), by repeat (first | exact Drawn0.refl _ | apply Drawn0.step)⟩
 rw [if_neg c2] at H
 have c2b0 : (a0 == 0) = false := beq_eq_false_iff_ne.mpr c2
 have c2b1 : (a0 != 0) = true := bne_iff_ne.mpr c2
 have HC3 := sd_ H
 clear H
 go_enter Tryd.func45, Tryd.ntmps45
 go_upto_region 3 with (fail)
 go_cut [6] (fun v6 wc => ∃ (kq : Nat) (x6_2 : Bool), v6 = .bool x6_2 ∧ Aside0 (spec_l2Kids.j0 kq a0 x6_2 = some r) ∧ Aside0 (kq ≤ k) ∧ Drawn0 w wc)
 case first =>
  have H := HC3.out
  clear HC3
  by_cases c4 : a0 = 1
  ·rw [if_pos c4] at H
   have c4b0 : (a0 == 1) = true := beq_iff_eq.mpr c4
   have c4b1 : (a0 != 1) = false := bne_eq_false_iff_eq.mpr c4
   clear c4
   (first | rw [c4b0] | (simp only [i64_w, i32_w]; rw [c4b0]) | skip)
   have H' := sd_ H
   clear H
   go_wp2
   go_meet
   case rel => exact ⟨_, (true), sm_, H', ⟨by first | omega | exact Nat.le_refl _⟩, by repeat (first | exact Drawn0.refl _ | apply Drawn0.step)⟩
  rw [if_neg c4] at H
  have c4b0 : (a0 == 1) = false := beq_eq_false_iff_ne.mpr c4
  have c4b1 : (a0 != 1) = true := bne_iff_ne.mpr c4
  (first | rw [c4b0] | (simp only [i64_w, i32_w]; rw [c4b0]) | skip)
  by_cases c5 : a0 = 2
  ·rw [if_pos c5] at H
   have c5b0 : (a0 == 2) = true := beq_iff_eq.mpr c5
   have c5b1 : (a0 != 2) = false := bne_eq_false_iff_eq.mpr c5
   clear c5
   have H' := sd_ H
   clear H
   go_wp2
   go_meet
   case rel => exact ⟨_, (true), sm_, H', ⟨by first | omega | exact Nat.le_refl _⟩, by repeat (first | exact Drawn0.refl _ | apply Drawn0.step)⟩
  rw [if_neg c5] at H
  have c5b0 : (a0 == 2) = false := beq_eq_false_iff_ne.mpr c5
  have c5b1 : (a0 != 2) = true := bne_iff_ne.mpr c5
  replace H := Option.bind_eq_some_iff.mp H
  obtain ⟨t111, A60, H⟩ := H
  try dsimp only at H
  have A6 := sd_ A60
  clear A60
  have H' := sd_ H
  clear H
  go_wp2_with (first | (go_at_call 15; (with_reducible refine (spec_l2Arrow.calls a0 t111 _ A6.out).mono ?_); rintro e w' ⟨rfl, ⟨nd, rfl⟩⟩))
  go_meet
  case rel => exact ⟨_, (t111), sm_, H', ⟨by first | omega | exact Nat.le_refl _⟩, by repeat (first | exact Drawn0.refl _ | apply Drawn0.step)⟩
 case rest =>
  clear HC3
  try clear c2
  try clear c2b0
  try clear c2b1
  try clear c4
  obtain ⟨kq, x6_2, rfl, HA, HJ2, ⟨mc2, rfl⟩⟩ := hcut
  cases kq with
  | zero => exact absurd HA.out (by simp [spec_l2Kids.j0])
  | succ kj2 =>
   have H := HA.out
   clear HA
   simp only [spec_l2Kids.j0] at H
   by_cases c7 : x6_2 = true
   ·subst c7
    have H1 : (some 2) = some r := by rw [if_pos rfl] at H; exact H
    clear H
    have H := H1
    clear H1
    obtain rfl := Option.some.inj H
    go_wp2
    go_ret
    exact ⟨by first | rfl | (simp; done) | (simp [*]; done), by repeat (first | exact Drawn0.refl _ | apply Drawn0.step)⟩
   replace c7 := Bool.eq_false_iff.mpr c7
   subst c7
   have H1 : ((spec_l2Box.f a0).bind fun t112 => (if t112 = true then (some 1) else (some (-1)))) = some r := by rw [if_neg (show ¬ (false = true) by decide)] at H; exact H
   clear H
   have H := H1
   clear H1
   replace H := Option.bind_eq_some_iff.mp H
   obtain ⟨t112, A80, H⟩ := H
   try dsimp only at H
   have A8 := sd_ A80
   clear A80
   by_cases c9 : t112 = true
   ·subst c9
    have H1 : (some 1) = some r := by rw [if_pos rfl] at H; exact H
    clear H
    have H := H1
    clear H1
    obtain rfl := Option.some.inj H
    go_wp2_with (first | ((with_reducible refine gate_callee (f := 53) rfl ?_); refine goesL_ (some 19) rfl rfl Tryd.func53 (by kernel_rfl) rfl #[.int .i64 a0] rfl la_ ?_; (with_reducible refine (spec_l2Box.calls a0 true _ A8.out).mono ?_); rintro e w' ⟨rfl, ⟨nd, rfl⟩⟩; refine ⟨_, rfl, ?_⟩))
    go_ret
    exact ⟨by first | rfl | (simp; done) | (simp [*]; done), by repeat (first | exact Drawn0.refl _ | apply Drawn0.step)⟩
   replace c9 := Bool.eq_false_iff.mpr c9
   subst c9
   have H1 : (some (-1)) = some r := by rw [if_neg (show ¬ (false = true) by decide)] at H; exact H
   clear H
   have H := H1
   clear H1
   obtain rfl := Option.some.inj H
   go_wp2_with (first | ((with_reducible refine gate_callee (f := 53) rfl ?_); refine goesL_ (some 19) rfl rfl Tryd.func53 (by kernel_rfl) rfl #[.int .i64 a0] rfl la_ ?_; (with_reducible refine (spec_l2Box.calls a0 false _ A8.out).mono ?_); rintro e w' ⟨rfl, ⟨nd, rfl⟩⟩; refine ⟨_, rfl, ?_⟩))
   go_ret
   exact ⟨by first | rfl | (simp; done) | (simp [*]; done), by repeat (first | exact Drawn0.refl _ | apply Drawn0.step)⟩

end Go.Proofs.YtlhiacnmcckjgaaDoor.P
end
