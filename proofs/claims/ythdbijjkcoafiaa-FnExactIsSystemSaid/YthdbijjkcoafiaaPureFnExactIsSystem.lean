/- FnExactIsSystem: the pure statement. -/
import Derived.Test.YthdbijjkcoafiaaPf3
import Derived.Test.YthdbijjkcoafiaaB1
set_option linter.unusedSimpArgs false
set_option linter.unusedVariables false
namespace Go.Proofs.Ythdbijjkcoafiaa.Pure
open Go.RowKit Go.Proofs.Ythdbijjkcoafiaa.P Go.Proofs.YthdbijjkcoafiaaW.PrintWords Go.Proofs.YthdbijjkcoafiaaW.PrintLast
theorem FnExactIsSystem : laws_FnExactIsSystem.Pure := by
  intro n p t b  hn hp ht hb 
  refine evRounds ?_
  unfold laws_FnExactIsSystem.f
  obtain ⟨s, hs, _, _, hl⟩ := szSystem n p t b 1048576 (by decide) (by decide) hp.2 ht.2 hb.2
  simp only [hs, Option.bind_some]
  by_cases c : s < 0
  · simp only [if_pos c]; exact Ev.now _
  · obtain ⟨l1, l2, l3⟩ := hl c
    have ts := toSystem n p t b l1 l2 l3
    have es := eqSystem n p t b l1 l2 l3
    simp only [if_neg c]
    refine Ev.bind ts ?_
    refine Ev.bind (specSystem n p t b) ?_
    refine Ev.bind ts ?_
    refine Ev.bind (implSystem n p t b) ?_
    simp only [bne_self_eq_false, Bool.false_eq_true, if_false, if_true, eq_self]
    refine Ev.bind ts ?_
    refine Ev.bind es ?_
    simp only [if_true]
    exact Ev.now _
end Go.Proofs.Ythdbijjkcoafiaa.Pure
