/- FnExactConstants: the pure statement. -/
import Derived.Test.YthcldodehfdhiaaPf3
namespace Go.Proofs.Ythcldodehfdhiaa.Pure
open Go.RowKit Go.Proofs.Ythcldodehfdhiaa.P Go.Proofs.YthcldodehfdhiaaW.PrintWords Go.Proofs.YthcldodehfdhiaaW.PrintLast
theorem FnExactConstants : laws_FnExactConstants.Pure := by
  unfold laws_FnExactConstants.Pure laws_FnExactConstants.f
  rfl
end Go.Proofs.Ythcldodehfdhiaa.Pure
