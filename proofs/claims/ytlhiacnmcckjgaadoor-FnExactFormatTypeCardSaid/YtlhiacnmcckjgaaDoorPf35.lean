-- Printed by this session's own program (wip/tools/mkprint.py) out of the translation. Not trusted: Lean checks it.
import Derived.Test.YtlhiacnmcckjgaaDoorP0
import Derived.Test.YtlhiacnmcckjgaaDoorPf44
import Derived.Test.YtlhiacnmcckjgaaDoorPf46
/-! short words -/
namespace Go.Proofs.YtlhiacnmcckjgaaDoor.P
open Go.RowKit Go.Proofs.YtlhiacnmcckjgaaDoorW.PrintWords Go.Proofs.YtlhiacnmcckjgaaDoorW.PrintLast Go.Proofs.YtlhiacnmcckjgaaDoorW.PrintMore
attribute [local go_sem] max2_int min2_int max_two min_two max_three min_three max_four min_four   -- for this text's walks alone
set_option linter.unusedVariables false
set_option linter.unusedSimpArgs false

/-! ### impl_codeText: function 35 -/
def impl_codeText.f (a0 : Int) : Option (ByteArray) := (impl_shape.f a0).bind fun bt156 => (if bt156.1 = 0 then (some (⟨#[110]⟩ : ByteArray)) else (if bt156.1 = 1 then (some (⟨#[42]⟩ : ByteArray)) else (if bt156.1 = 2 then (some (⟨#[43]⟩ : ByteArray)) else (if bt156.1 = 3 then ((impl_gradeText.f bt156.2).bind fun t158 => (if 1 + t158.size ≤ 9223372036854775807 then (if ((⟨#[62]⟩ : ByteArray) ++ t158).size + 1 ≤ 9223372036854775807 then (some (((⟨#[62]⟩ : ByteArray) ++ t158) ++ (⟨#[46]⟩ : ByteArray))) else (none)) else (none))) else ((impl_gradeText.f bt156.2).bind fun t159 => (if 1 + t159.size ≤ 9223372036854775807 then (if ((⟨#[33]⟩ : ByteArray) ++ t159).size + 1 ≤ 9223372036854775807 then (some (((⟨#[33]⟩ : ByteArray) ++ t159) ++ (⟨#[46]⟩ : ByteArray))) else (none)) else (none)))))))
set_option maxHeartbeats 8000000 in
set_option maxRecDepth 100000 in
theorem impl_codeText.calls (a0 : Int) (r : ByteArray) (w : World) (h : impl_codeText.f a0 = some r) :
  Calls Tryd.prog 35 #[.int .i64 a0] w fun e w' => e = .returned (.string r) ∧ Drawn0 w w' := by
 have H : ((impl_shape.f a0).bind fun bt156 => (if bt156.1 = 0 then (some (⟨#[110]⟩ : ByteArray)) else (if bt156.1 = 1 then (some (⟨#[42]⟩ : ByteArray)) else (if bt156.1 = 2 then (some (⟨#[43]⟩ : ByteArray)) else (if bt156.1 = 3 then ((impl_gradeText.f bt156.2).bind fun t158 => (if 1 + t158.size ≤ 9223372036854775807 then (if ((⟨#[62]⟩ : ByteArray) ++ t158).size + 1 ≤ 9223372036854775807 then (some (((⟨#[62]⟩ : ByteArray) ++ t158) ++ (⟨#[46]⟩ : ByteArray))) else (none)) else (none))) else ((impl_gradeText.f bt156.2).bind fun t159 => (if 1 + t159.size ≤ 9223372036854775807 then (if ((⟨#[33]⟩ : ByteArray) ++ t159).size + 1 ≤ 9223372036854775807 then (some (((⟨#[33]⟩ : ByteArray) ++ t159) ++ (⟨#[46]⟩ : ByteArray))) else (none)) else (none)))))))) = some r := h
 clear h
 replace H := Option.bind_eq_some_iff.mp H
 obtain ⟨⟨t156, t157⟩, A20, H⟩ := H
 try dsimp only at H
 have A2 := sd_ A20
 clear A20
 by_cases c3 : t156 = 0
 ·rw [if_pos c3] at H
  have c3b0 : (t156 == 0) = true := beq_iff_eq.mpr c3
  have c3b1 : (t156 != 0) = false := bne_eq_false_iff_eq.mpr c3
  clear c3
  obtain rfl := Option.some.inj H
  go_enter Tryd.func35, Tryd.ntmps35
  go_wp2_with (first | ((with_reducible refine gate_callee (f := 46) rfl ?_); refine goesL_ (some 7) rfl rfl Tryd.func46 (by kernel_rfl) rfl #[.int .i64 a0] rfl la_ ?_; (with_reducible refine (impl_shape.calls a0 t156 t157 _ A2.out).mono ?_); rintro e w' ⟨rfl, ⟨nd, rfl⟩⟩; refine ⟨_, rfl, ?_⟩))
  go_ret
  exact ⟨by first | rfl | (simp; done) | (simp [*]; done), by repeat (first | exact Drawn0.refl _ | apply Drawn0.step)⟩
 rw [if_neg c3] at H
 have c3b0 : (t156 == 0) = false := beq_eq_false_iff_ne.mpr c3
 have c3b1 : (t156 != 0) = true := bne_iff_ne.mpr c3
 by_cases c4 : t156 = 1
 ·rw [if_pos c4] at H
  have c4b0 : (t156 == 1) = true := beq_iff_eq.mpr c4
  have c4b1 : (t156 != 1) = false := bne_eq_false_iff_eq.mpr c4
  clear c4
  obtain rfl := Option.some.inj H
  go_enter Tryd.func35, Tryd.ntmps35
  go_wp2_with (first | ((with_reducible refine gate_callee (f := 46) rfl ?_); refine goesL_ (some 7) rfl rfl Tryd.func46 (by kernel_rfl) rfl #[.int .i64 a0] rfl la_ ?_; (with_reducible refine (impl_shape.calls a0 t156 t157 _ A2.out).mono ?_); rintro e w' ⟨rfl, ⟨nd, rfl⟩⟩; refine ⟨_, rfl, ?_⟩))
  go_ret
  exact ⟨by first | rfl | (simp; done) | (simp [*]; done), by repeat (first | exact Drawn0.refl _ | apply Drawn0.step)⟩
 rw [if_neg c4] at H
 have c4b0 : (t156 == 1) = false := beq_eq_false_iff_ne.mpr c4
 have c4b1 : (t156 != 1) = true := bne_iff_ne.mpr c4
 by_cases c5 : t156 = 2
 ·rw [if_pos c5] at H
  have c5b0 : (t156 == 2) = true := beq_iff_eq.mpr c5
  have c5b1 : (t156 != 2) = false := bne_eq_false_iff_eq.mpr c5
  clear c5
  obtain rfl := Option.some.inj H
  go_enter Tryd.func35, Tryd.ntmps35
  go_wp2_with (first | ((with_reducible refine gate_callee (f := 46) rfl ?_); refine goesL_ (some 7) rfl rfl Tryd.func46 (by kernel_rfl) rfl #[.int .i64 a0] rfl la_ ?_; (with_reducible refine (impl_shape.calls a0 t156 t157 _ A2.out).mono ?_); rintro e w' ⟨rfl, ⟨nd, rfl⟩⟩; refine ⟨_, rfl, ?_⟩))
  go_ret
  exact ⟨by first | rfl | (simp; done) | (simp [*]; done), by repeat (first | exact Drawn0.refl _ | apply Drawn0.step)⟩
 rw [if_neg c5] at H
 have c5b0 : (t156 == 2) = false := beq_eq_false_iff_ne.mpr c5
 have c5b1 : (t156 != 2) = true := bne_iff_ne.mpr c5
 by_cases c6 : t156 = 3
 ·rw [if_pos c6] at H
  have c6b0 : (t156 == 3) = true := beq_iff_eq.mpr c6
  have c6b1 : (t156 != 3) = false := bne_eq_false_iff_eq.mpr c6
  clear c6
  replace H := Option.bind_eq_some_iff.mp H
  obtain ⟨t158, A70, H⟩ := H
  try dsimp only at H
  have A7 := sd_ A70
  clear A70
  by_cases c8 : 1 + t158.size ≤ 9223372036854775807
  ·rw [if_pos c8] at H
   have c8b0 := eq_true c8
   have c8b1 : decide (1 + t158.size ≤ 9223372036854775807) = true := decide_eq_true c8
   try have c8b2 : (9223372036854775807 < 1 + t158.size) = False := eq_false (Nat.not_lt.2 c8)
   by_cases c9 : ((⟨#[62]⟩ : ByteArray) ++ t158).size + 1 ≤ 9223372036854775807
   ·rw [if_pos c9] at H
    have c9b0 := eq_true c9
    have c9b1 : decide (((⟨#[62]⟩ : ByteArray) ++ t158).size + 1 ≤ 9223372036854775807) = true := decide_eq_true c9
    try have c9b2 : (9223372036854775807 < ((⟨#[62]⟩ : ByteArray) ++ t158).size + 1) = False := eq_false (Nat.not_lt.2 c9)
    have c9b3 := eq_false (Nat.not_lt.2 c9)
    simp only [ByteArray.size_append, show (⟨#[62]⟩ : ByteArray).size = 1 from rfl] at c9b3
    obtain rfl := Option.some.inj H
    go_enter Tryd.func35, Tryd.ntmps35
    go_wp2_with (first | ((with_reducible refine gate_callee (f := 46) rfl ?_); refine goesL_ (some 7) rfl rfl Tryd.func46 (by kernel_rfl) rfl #[.int .i64 a0] rfl la_ ?_; (with_reducible refine (impl_shape.calls a0 t156 t157 _ A2.out).mono ?_); rintro e w' ⟨rfl, ⟨nd, rfl⟩⟩; refine ⟨_, rfl, ?_⟩) | ((with_reducible refine gate_callee (f := 44) rfl ?_); refine goesL_ (some 20) rfl rfl Tryd.func44 (by kernel_rfl) rfl #[.int .i64 t157] rfl la_ ?_; (with_reducible refine (impl_gradeText.calls t157 t158 _ A7.out).mono ?_); rintro e w' ⟨rfl, ⟨nd, rfl⟩⟩; refine ⟨_, rfl, ?_⟩))
    go_ret
    exact ⟨by first | rfl | (simp; done) | (simp [*]; done), by repeat (first | exact Drawn0.refl _ | apply Drawn0.step)⟩
   rw [if_neg c9] at H
   exact absurd H (by simp)
  rw [if_neg c8] at H
  exact absurd H (by simp)
 rw [if_neg c6] at H
 have c6b0 : (t156 == 3) = false := beq_eq_false_iff_ne.mpr c6
 have c6b1 : (t156 != 3) = true := bne_iff_ne.mpr c6
 replace H := Option.bind_eq_some_iff.mp H
 obtain ⟨t159, A100, H⟩ := H
 try dsimp only at H
 have A10 := sd_ A100
 clear A100
 by_cases c11 : 1 + t159.size ≤ 9223372036854775807
 ·rw [if_pos c11] at H
  have c11b0 := eq_true c11
  have c11b1 : decide (1 + t159.size ≤ 9223372036854775807) = true := decide_eq_true c11
  try have c11b2 : (9223372036854775807 < 1 + t159.size) = False := eq_false (Nat.not_lt.2 c11)
  by_cases c12 : ((⟨#[33]⟩ : ByteArray) ++ t159).size + 1 ≤ 9223372036854775807
  ·rw [if_pos c12] at H
   have c12b0 := eq_true c12
   have c12b1 : decide (((⟨#[33]⟩ : ByteArray) ++ t159).size + 1 ≤ 9223372036854775807) = true := decide_eq_true c12
   try have c12b2 : (9223372036854775807 < ((⟨#[33]⟩ : ByteArray) ++ t159).size + 1) = False := eq_false (Nat.not_lt.2 c12)
   have c12b3 := eq_false (Nat.not_lt.2 c12)
   simp only [ByteArray.size_append, show (⟨#[33]⟩ : ByteArray).size = 1 from rfl] at c12b3
   obtain rfl := Option.some.inj H
   go_enter Tryd.func35, Tryd.ntmps35
   go_wp2_with (first | ((with_reducible refine gate_callee (f := 46) rfl ?_); refine goesL_ (some 7) rfl rfl Tryd.func46 (by kernel_rfl) rfl #[.int .i64 a0] rfl la_ ?_; (with_reducible refine (impl_shape.calls a0 t156 t157 _ A2.out).mono ?_); rintro e w' ⟨rfl, ⟨nd, rfl⟩⟩; refine ⟨_, rfl, ?_⟩) | ((with_reducible refine gate_callee (f := 44) rfl ?_); refine goesL_ (some 24) rfl rfl Tryd.func44 (by kernel_rfl) rfl #[.int .i64 t157] rfl la_ ?_; (with_reducible refine (impl_gradeText.calls t157 t159 _ A10.out).mono ?_); rintro e w' ⟨rfl, ⟨nd, rfl⟩⟩; refine ⟨_, rfl, ?_⟩))
   go_ret
   exact ⟨by first | rfl | (simp; done) | (simp [*]; done), by repeat (first | exact Drawn0.refl _ | apply Drawn0.step)⟩
  rw [if_neg c12] at H
  exact absurd H (by simp)
 rw [if_neg c11] at H
 exact absurd H (by simp)

end Go.Proofs.YtlhiacnmcckjgaaDoor.P
