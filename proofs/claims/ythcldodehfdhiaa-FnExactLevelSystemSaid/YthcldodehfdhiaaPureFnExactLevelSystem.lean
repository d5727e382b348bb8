/- FnExactLevelSystem: the pure statement. -/
import Derived.Test.YthcldodehfdhiaaPf4
namespace Go.Proofs.Ythcldodehfdhiaa.Pure
open Go.RowKit Go.Proofs.Ythcldodehfdhiaa.P Go.Proofs.YthcldodehfdhiaaW.PrintWords Go.Proofs.YthcldodehfdhiaaW.PrintLast
theorem FnExactLevelSystem_1 : laws_FnExactLevelSystem.f 320 1 = some true := by decide +kernel
theorem FnExactLevelSystem_2 : laws_FnExactLevelSystem.f 320 2 = some true := by decide +kernel
theorem FnExactLevelSystem_3 : laws_FnExactLevelSystem.f 320 3 = some true := by decide +kernel
theorem FnExactLevelSystem_4 : laws_FnExactLevelSystem.f 320 4 = some true := by decide +kernel
theorem FnExactLevelSystem_5 : laws_FnExactLevelSystem.f 320 5 = some true := by decide +kernel
theorem FnExactLevelSystem_6 : laws_FnExactLevelSystem.f 320 6 = some true := by decide +kernel
theorem FnExactLevelSystem_7 : laws_FnExactLevelSystem.f 320 7 = some true := by decide +kernel
theorem FnExactLevelSystem_8 : laws_FnExactLevelSystem.f 320 8 = some true := by decide +kernel
theorem FnExactLevelSystem_9 : laws_FnExactLevelSystem.f 320 9 = some true := by decide +kernel
theorem FnExactLevelSystem_10 : laws_FnExactLevelSystem.f 320 10 = some true := by decide +kernel
theorem FnExactLevelSystem_11 : laws_FnExactLevelSystem.f 320 11 = some true := by decide +kernel
theorem FnExactLevelSystem_12 : laws_FnExactLevelSystem.f 320 12 = some true := by decide +kernel
theorem FnExactLevelSystem_13 : laws_FnExactLevelSystem.f 320 13 = some true := by decide +kernel
theorem FnExactLevelSystem_14 : laws_FnExactLevelSystem.f 320 14 = some true := by decide +kernel
theorem FnExactLevelSystem_15 : laws_FnExactLevelSystem.f 320 15 = some true := by decide +kernel
theorem FnExactLevelSystem_in : ∀ a0 : Int, 1 ≤ a0 → a0 ≤ 15 → laws_FnExactLevelSystem.f 320 a0 = some true := by
  intro a0 h1 h2
  obtain ⟨n, rfl⟩ := Int.eq_ofNat_of_zero_le (show 0 ≤ a0 by omega)
  match n, h1, h2 with
  | 0, h1, h2 => omega
  | 1, _, _ => exact FnExactLevelSystem_1
  | 2, _, _ => exact FnExactLevelSystem_2
  | 3, _, _ => exact FnExactLevelSystem_3
  | 4, _, _ => exact FnExactLevelSystem_4
  | 5, _, _ => exact FnExactLevelSystem_5
  | 6, _, _ => exact FnExactLevelSystem_6
  | 7, _, _ => exact FnExactLevelSystem_7
  | 8, _, _ => exact FnExactLevelSystem_8
  | 9, _, _ => exact FnExactLevelSystem_9
  | 10, _, _ => exact FnExactLevelSystem_10
  | 11, _, _ => exact FnExactLevelSystem_11
  | 12, _, _ => exact FnExactLevelSystem_12
  | 13, _, _ => exact FnExactLevelSystem_13
  | 14, _, _ => exact FnExactLevelSystem_14
  | 15, _, _ => exact FnExactLevelSystem_15
  | n + 16, h1, h2 => omega
theorem FnExactLevelSystem_out (a0 : Int) (h : ¬ (1 ≤ a0 ∧ a0 ≤ 15)) : laws_FnExactLevelSystem.f 9 a0 = some true := by
  have h1 : spec_l1In.f a0 1 15 = some false := by
    unfold spec_l1In.f
    by_cases c : a0 ≥ 1
    · rw [if_pos c]; simp; omega
    · rw [if_neg c]
  have h2 : impl_within.f a0 1 15 = some false := by
    unfold impl_within.f
    by_cases c : a0 ≥ 1
    · rw [if_pos c]; simp; omega
    · rw [if_neg c]
  unfold laws_FnExactLevelSystem.f spec_LevelSystem.f impl_LevelSystem.f
  rw [h1, h2]
  rfl
theorem FnExactLevelSystem : laws_FnExactLevelSystem.Pure := by
  intro a0 _
  by_cases h : 1 ≤ a0 ∧ a0 ≤ 15
  · exact ⟨320, FnExactLevelSystem_in a0 h.1 h.2⟩
  · exact ⟨9, FnExactLevelSystem_out a0 h⟩
end Go.Proofs.Ythcldodehfdhiaa.Pure
