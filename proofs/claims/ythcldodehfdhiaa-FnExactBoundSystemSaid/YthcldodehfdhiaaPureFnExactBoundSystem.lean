/- FnExactBoundSystem: the pure statement. -/
import Derived.Test.YthcldodehfdhiaaPf5
namespace Go.Proofs.Ythcldodehfdhiaa.Pure
open Go.RowKit Go.Proofs.Ythcldodehfdhiaa.P Go.Proofs.YthcldodehfdhiaaW.PrintWords Go.Proofs.YthcldodehfdhiaaW.PrintLast
theorem FnExactBoundSystem_1 : laws_FnExactBoundSystem.f 320 1 = some true := by decide +kernel
theorem FnExactBoundSystem_2 : laws_FnExactBoundSystem.f 320 2 = some true := by decide +kernel
theorem FnExactBoundSystem_3 : laws_FnExactBoundSystem.f 320 3 = some true := by decide +kernel
theorem FnExactBoundSystem_4 : laws_FnExactBoundSystem.f 320 4 = some true := by decide +kernel
theorem FnExactBoundSystem_5 : laws_FnExactBoundSystem.f 320 5 = some true := by decide +kernel
theorem FnExactBoundSystem_6 : laws_FnExactBoundSystem.f 320 6 = some true := by decide +kernel
theorem FnExactBoundSystem_7 : laws_FnExactBoundSystem.f 320 7 = some true := by decide +kernel
theorem FnExactBoundSystem_8 : laws_FnExactBoundSystem.f 320 8 = some true := by decide +kernel
theorem FnExactBoundSystem_9 : laws_FnExactBoundSystem.f 320 9 = some true := by decide +kernel
theorem FnExactBoundSystem_10 : laws_FnExactBoundSystem.f 320 10 = some true := by decide +kernel
theorem FnExactBoundSystem_11 : laws_FnExactBoundSystem.f 320 11 = some true := by decide +kernel
theorem FnExactBoundSystem_12 : laws_FnExactBoundSystem.f 320 12 = some true := by decide +kernel
theorem FnExactBoundSystem_13 : laws_FnExactBoundSystem.f 320 13 = some true := by decide +kernel
theorem FnExactBoundSystem_14 : laws_FnExactBoundSystem.f 320 14 = some true := by decide +kernel
theorem FnExactBoundSystem_in : ∀ a0 : Int, 1 ≤ a0 → a0 ≤ 14 → laws_FnExactBoundSystem.f 320 a0 = some true := by
  intro a0 h1 h2
  obtain ⟨n, rfl⟩ := Int.eq_ofNat_of_zero_le (show 0 ≤ a0 by omega)
  match n, h1, h2 with
  | 0, h1, h2 => omega
  | 1, _, _ => exact FnExactBoundSystem_1
  | 2, _, _ => exact FnExactBoundSystem_2
  | 3, _, _ => exact FnExactBoundSystem_3
  | 4, _, _ => exact FnExactBoundSystem_4
  | 5, _, _ => exact FnExactBoundSystem_5
  | 6, _, _ => exact FnExactBoundSystem_6
  | 7, _, _ => exact FnExactBoundSystem_7
  | 8, _, _ => exact FnExactBoundSystem_8
  | 9, _, _ => exact FnExactBoundSystem_9
  | 10, _, _ => exact FnExactBoundSystem_10
  | 11, _, _ => exact FnExactBoundSystem_11
  | 12, _, _ => exact FnExactBoundSystem_12
  | 13, _, _ => exact FnExactBoundSystem_13
  | 14, _, _ => exact FnExactBoundSystem_14
  | n + 15, h1, h2 => omega
theorem FnExactBoundSystem_out (a0 : Int) (h : ¬ (1 ≤ a0 ∧ a0 ≤ 14)) : laws_FnExactBoundSystem.f 9 a0 = some true := by
  have h1 : spec_l1In.f a0 1 14 = some false := by
    unfold spec_l1In.f
    by_cases c : a0 ≥ 1
    · rw [if_pos c]; simp; omega
    · rw [if_neg c]
  have h2 : impl_within.f a0 1 14 = some false := by
    unfold impl_within.f
    by_cases c : a0 ≥ 1
    · rw [if_pos c]; simp; omega
    · rw [if_neg c]
  unfold laws_FnExactBoundSystem.f spec_BoundSystem.f spec_l1Numbers.f impl_BoundSystem.f
  rw [h1, h2]
  rfl
theorem FnExactBoundSystem : laws_FnExactBoundSystem.Pure := by
  intro a0 _
  by_cases h : 1 ≤ a0 ∧ a0 ≤ 14
  · exact ⟨320, FnExactBoundSystem_in a0 h.1 h.2⟩
  · exact ⟨9, FnExactBoundSystem_out a0 h⟩
end Go.Proofs.Ythcldodehfdhiaa.Pure
