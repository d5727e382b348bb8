/- FnExactIsType: the pure statement. -/
import Derived.Test.YtnokgkhkmnldeaaPf5
import Derived.Test.YtnokgkhkmnldeaaB5
set_option linter.unusedSimpArgs false
set_option linter.unusedVariables false
namespace Go.Proofs.Ytnokgkhkmnldeaa.Pure
open Go.RowKit Go.Proofs.Ytnokgkhkmnldeaa.P Go.Proofs.YtnokgkhkmnldeaaW.PrintWords Go.Proofs.YtnokgkhkmnldeaaW.PrintLast
theorem implV (n : Int) (p t : List Int) (b : List Bool) (xs : List Int) (hl : xs.length ≤ 1048576) : Ev (fun k => impl_IsType.f k n p t b xs) (sysV n p t b && typeV n xs) := by
  unfold impl_IsType.f
  refine Ev.bind (implType n p t b xs hl) ?_
  cases typeV n xs
  · simpa using Ev.now false
  · simp only [if_true, Bool.and_true, Option.bind_fun_some]
    exact implSystem n p t b
theorem FnExactIsType : laws_FnExactIsType.Pure := by
  intro n p t b l  hn hp ht hb hl1 
  refine evRounds ?_
  unfold laws_FnExactIsType.f
  by_cases c0 : (l.length : Int) > 1048576
  · simp only [if_pos c0]; exact Ev.now _
  · have l4 : l.length ≤ 1048576 := by omega
    simp only [if_neg c0]
    obtain ⟨s, hs, _, _, hl⟩ := szSystem n p t b 1048576 (by decide) (by decide) hp.2 ht.2 hb.2
    simp only [hs, Option.bind_some]
    by_cases c : s < 0
    · simp only [if_pos c]; exact Ev.now _
    · obtain ⟨l1, l2, l3⟩ := hl c
      have ts := toSystem n p t b l1 l2 l3
      have es := eqSystem n p t b l1 l2 l3
      have tl := toIntS l l4
      have el := eqIntS l l4
      simp only [if_neg c]
      refine Ev.bind ts ?_
      refine Ev.bind tl ?_
      refine Ev.bind (specType n p t b l l4) ?_
      refine Ev.bind ts ?_
      refine Ev.bind tl ?_
      refine Ev.bind (implV n p t b l l4) ?_
      simp only [bne_self_eq_false, Bool.false_eq_true, if_false, if_true, eq_self]
      refine Ev.bind ts ?_
      refine Ev.bind es ?_
      simp only [if_true]
      refine Ev.bind tl ?_
      refine Ev.bind el ?_
      simp only [if_true]
      exact Ev.now _
end Go.Proofs.Ytnokgkhkmnldeaa.Pure
