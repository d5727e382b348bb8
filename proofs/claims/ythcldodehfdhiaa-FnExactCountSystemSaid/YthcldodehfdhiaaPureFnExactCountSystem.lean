/- FnExactCountSystem: the pure statement. -/
import Derived.Test.YthcldodehfdhiaaPf6
namespace Go.Proofs.Ythcldodehfdhiaa.Pure
open Go.RowKit Go.Proofs.Ythcldodehfdhiaa.P Go.Proofs.YthcldodehfdhiaaW.PrintWords Go.Proofs.YthcldodehfdhiaaW.PrintLast
theorem FnExactCountSystem_1 : laws_FnExactCountSystem.f 320 1 = some true := by decide +kernel
theorem FnExactCountSystem_2 : laws_FnExactCountSystem.f 320 2 = some true := by decide +kernel
theorem FnExactCountSystem_3 : laws_FnExactCountSystem.f 320 3 = some true := by decide +kernel
theorem FnExactCountSystem_4 : laws_FnExactCountSystem.f 320 4 = some true := by decide +kernel
theorem FnExactCountSystem_5 : laws_FnExactCountSystem.f 320 5 = some true := by decide +kernel
theorem FnExactCountSystem_6 : laws_FnExactCountSystem.f 320 6 = some true := by decide +kernel
theorem FnExactCountSystem_7 : laws_FnExactCountSystem.f 320 7 = some true := by decide +kernel
theorem FnExactCountSystem_8 : laws_FnExactCountSystem.f 320 8 = some true := by decide +kernel
theorem FnExactCountSystem_9 : laws_FnExactCountSystem.f 320 9 = some true := by decide +kernel
theorem FnExactCountSystem_10 : laws_FnExactCountSystem.f 320 10 = some true := by decide +kernel
theorem FnExactCountSystem_11 : laws_FnExactCountSystem.f 320 11 = some true := by decide +kernel
theorem FnExactCountSystem_12 : laws_FnExactCountSystem.f 320 12 = some true := by decide +kernel
theorem FnExactCountSystem_13 : laws_FnExactCountSystem.f 320 13 = some true := by decide +kernel
theorem FnExactCountSystem_14 : laws_FnExactCountSystem.f 320 14 = some true := by decide +kernel
theorem FnExactCountSystem_in : ∀ a0 : Int, 1 ≤ a0 → a0 ≤ 14 → laws_FnExactCountSystem.f 320 a0 = some true := by
  intro a0 h1 h2
  obtain ⟨n, rfl⟩ := Int.eq_ofNat_of_zero_le (show 0 ≤ a0 by omega)
  match n, h1, h2 with
  | 0, h1, h2 => omega
  | 1, _, _ => exact FnExactCountSystem_1
  | 2, _, _ => exact FnExactCountSystem_2
  | 3, _, _ => exact FnExactCountSystem_3
  | 4, _, _ => exact FnExactCountSystem_4
  | 5, _, _ => exact FnExactCountSystem_5
  | 6, _, _ => exact FnExactCountSystem_6
  | 7, _, _ => exact FnExactCountSystem_7
  | 8, _, _ => exact FnExactCountSystem_8
  | 9, _, _ => exact FnExactCountSystem_9
  | 10, _, _ => exact FnExactCountSystem_10
  | 11, _, _ => exact FnExactCountSystem_11
  | 12, _, _ => exact FnExactCountSystem_12
  | 13, _, _ => exact FnExactCountSystem_13
  | 14, _, _ => exact FnExactCountSystem_14
  | n + 15, h1, h2 => omega
theorem FnExactCountSystem_out (a0 : Int) (h : ¬ (1 ≤ a0 ∧ a0 ≤ 14)) : laws_FnExactCountSystem.f 9 a0 = some true := by
  have h1 : spec_l1In.f a0 1 14 = some false := by
    unfold spec_l1In.f
    by_cases c : a0 ≥ 1
    · rw [if_pos c]; simp; omega
    · rw [if_neg c]
  have h2 : impl_within.f a0 1 14 = some false := by
    unfold impl_within.f
    by_cases c : a0 ≥ 1
    · rw [if_pos c]; simp; omega
    · rw [if_neg c]
  unfold laws_FnExactCountSystem.f spec_CountSystem.f spec_l1Numbers.f impl_CountSystem.f
  rw [h1, h2]
  rfl
theorem FnExactCountSystem : laws_FnExactCountSystem.Pure := by
  intro a0 _
  by_cases h : 1 ≤ a0 ∧ a0 ≤ 14
  · exact ⟨320, FnExactCountSystem_in a0 h.1 h.2⟩
  · exact ⟨9, FnExactCountSystem_out a0 h⟩
end Go.Proofs.Ythcldodehfdhiaa.Pure
