/- Two grades of a system. -/
import Derived.Test.YthdbijjkcoafiaaPf60
import Derived.Test.YthdbijjkcoafiaaPf62
import Derived.Test.YthdbijjkcoafiaaB1
set_option linter.unusedSimpArgs false
set_option linter.unusedVariables false
namespace Go.Proofs.Ythdbijjkcoafiaa.Pure
open Go.RowKit Go.Proofs.Ythdbijjkcoafiaa.P Go.Proofs.YthdbijjkcoafiaaW.PrintWords Go.Proofs.YthdbijjkcoafiaaW.PrintLast
def bothV (n : Int) (p t : List Int) (b : List Bool) (x y : Int) : Bool := sysV n p t b && (inV x 0 (wrap64 (n - 1)) && inV y 0 (wrap64 (n - 1)))
theorem specBoth (n : Int) (p t : List Int) (b : List Bool) (x y : Int) : Ev (fun k => spec_l1Both.f k n p t b x y) (bothV n p t b x y) := by
  unfold spec_l1Both.f spec_IsGrade.f bothV
  simp only [in_eq, Option.bind_some]
  obtain ⟨K, h⟩ := specSystem n p t b
  refine ⟨K, fun k hk => ?_⟩
  simp only [h k hk, Option.bind_some]
  cases sysV n p t b <;> cases inV x 0 (wrap64 (n - 1)) <;> simp
theorem implBoth (n : Int) (p t : List Int) (b : List Bool) (x y : Int) : Ev (fun k => impl_both.f k n p t b x y) (bothV n p t b x y) := by
  unfold impl_both.f bothV
  simp only [has_eq, Option.bind_some]
  obtain ⟨K, h⟩ := implSystem n p t b
  refine ⟨K, fun k hk => ?_⟩
  simp only [h k hk, Option.bind_some]
  cases sysV n p t b <;> cases inV x 0 (wrap64 (n - 1)) <;> cases inV y 0 (wrap64 (n - 1)) <;> simp
theorem both_ok {n : Int} {p t : List Int} {b : List Bool} {x y : Int} (h : bothV n p t b x y = true) : OK n p t b ∧ Rg n x ∧ Rg n y := by
  unfold bothV at h
  simp only [Bool.and_eq_true] at h
  have ok := sysV_ok h.1
  exact ⟨ok, (inV_Rg ok).mp h.2.1, (inV_Rg ok).mp h.2.2⟩
end Go.Proofs.Ythdbijjkcoafiaa.Pure
