/- FnExactIsGrade: the pure statement. -/
import Derived.Test.YthdbijjkcoafiaaPf4
import Derived.Test.YthdbijjkcoafiaaB1
set_option linter.unusedSimpArgs false
set_option linter.unusedVariables false
namespace Go.Proofs.Ythdbijjkcoafiaa.Pure
open Go.RowKit Go.Proofs.Ythdbijjkcoafiaa.P Go.Proofs.YthdbijjkcoafiaaW.PrintWords Go.Proofs.YthdbijjkcoafiaaW.PrintLast
theorem specGrade (n : Int) (p t : List Int) (b : List Bool) (x : Int) : Ev (fun k => spec_IsGrade.f k n p t b x) (sysV n p t b && inV x 0 (wrap64 (n - 1))) := by
  unfold spec_IsGrade.f
  refine Ev.bind (specSystem n p t b) ?_
  simp only [in_eq, Option.bind_some]
  cases sysV n p t b <;> simpa using Ev.now _
theorem implGrade (n : Int) (p t : List Int) (b : List Bool) (x : Int) : Ev (fun k => impl_IsGrade.f k n p t b x) (sysV n p t b && inV x 0 (wrap64 (n - 1))) := by
  unfold impl_IsGrade.f
  simp only [has_eq, Option.bind_some]
  cases inV x 0 (wrap64 (n - 1))
  · simpa using Ev.now false
  · simpa using Ev.bind (implSystem n p t b) (Ev.now _)
theorem FnExactIsGrade : laws_FnExactIsGrade.Pure := by
  intro n p t b x hn hp ht hb hx
  refine evRounds ?_
  unfold laws_FnExactIsGrade.f
  obtain ⟨s, hs, _, _, hl⟩ := szSystem n p t b 1048576 (by decide) (by decide) hp.2 ht.2 hb.2
  simp only [hs, Option.bind_some]
  by_cases c : s < 0
  · simp only [if_pos c]; exact Ev.now _
  · obtain ⟨l1, l2, l3⟩ := hl c
    have ts := toSystem n p t b l1 l2 l3
    have es := eqSystem n p t b l1 l2 l3
    simp only [if_neg c]
    refine Ev.bind ts ?_
    refine Ev.bind (specGrade n p t b x) ?_
    refine Ev.bind ts ?_
    refine Ev.bind (implGrade n p t b x) ?_
    simp only [bne_self_eq_false, Bool.false_eq_true, if_false, if_true, eq_self]
    refine Ev.bind ts ?_
    refine Ev.bind es ?_
    simp only [if_true]
    exact Ev.now _
end Go.Proofs.Ythdbijjkcoafiaa.Pure
