/- FnExactFormatType: the pure statement. -/
import Derived.Test.YtlhiacnmcckjgaaDoorPf3
import Derived.Test.YtlhiacnmcckjgaaDoorB16
set_option linter.unusedSimpArgs false
set_option linter.unusedVariables false
namespace Go.Proofs.YtlhiacnmcckjgaaDoor.Pure
open Go.RowKit Go.Proofs.YtlhiacnmcckjgaaDoor.P Go.Proofs.YtlhiacnmcckjgaaDoorW.PrintWords Go.Proofs.YtlhiacnmcckjgaaDoorW.PrintLast
theorem FnExactFormatType : laws_FnExactFormatType.Pure := by
  intro xs hx
  refine evRounds ?_
  unfold laws_FnExactFormatType.f
  by_cases c1 : (xs.length : Int) > 1048576
  · simp only [if_pos c1]; exact Ev.now _
  have hl : xs.length ≤ 1048576 := by omega
  simp only [if_neg c1]
  have tx := toIntS xs hl
  have ex := eqIntS xs hl
  have hi : Ev (fun k => impl_FormatType.f k xs) (if writtenV xs = true then typeV xs else (⟨#[]⟩ : ByteArray)) := by
    unfold impl_FormatType.f
    refine Ev.bind (implWritten xs hl) ?_
    cases c : writtenV xs
    · simpa using Ev.now (⟨#[]⟩ : ByteArray)
    · simp only [if_true, Option.bind_fun_some]
      exact typeTextE c
  refine Ev.bind tx ?_
  refine Ev.bind (specTypeE xs hl) ?_
  refine Ev.bind tx ?_
  refine Ev.bind hi ?_
  simp only [if_true]
  refine Ev.bind tx ?_
  refine Ev.bind ex ?_
  simp only [if_true]
  exact Ev.now _
end Go.Proofs.YtlhiacnmcckjgaaDoor.Pure
