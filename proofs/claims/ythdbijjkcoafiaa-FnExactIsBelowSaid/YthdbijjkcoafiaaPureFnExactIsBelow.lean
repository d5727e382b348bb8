/- FnExactIsBelow: the pure statement. -/
import Derived.Test.YthdbijjkcoafiaaPf5
import Derived.Test.YthdbijjkcoafiaaB2
set_option linter.unusedSimpArgs false
set_option linter.unusedVariables false
namespace Go.Proofs.Ythdbijjkcoafiaa.Pure
open Go.RowKit Go.Proofs.Ythdbijjkcoafiaa.P Go.Proofs.YthdbijjkcoafiaaW.PrintWords Go.Proofs.YthdbijjkcoafiaaW.PrintLast
theorem specV (n : Int) (p t : List Int) (b : List Bool) (x y : Int) : Ev (fun k => spec_IsBelow.f k n p t b x y) (if bothV n p t b x y = true then L n b x y else false) := by
  unfold spec_IsBelow.f
  refine Ev.bind (specBoth n p t b x y) ?_
  by_cases c : bothV n p t b x y = true
  · obtain ⟨h, hx, hy⟩ := both_ok c
    simp only [if_pos c]
    simp only [le_eq h hx hy, Option.bind_some]
    exact Ev.now _
  · simp only [if_neg c]
    exact Ev.now _
theorem implV (n : Int) (p t : List Int) (b : List Bool) (x y : Int) : Ev (fun k => impl_IsBelow.f k n p t b x y) (if bothV n p t b x y = true then L n b x y else false) := by
  unfold impl_IsBelow.f
  refine Ev.bind (implBoth n p t b x y) ?_
  by_cases c : bothV n p t b x y = true
  · obtain ⟨h, hx, hy⟩ := both_ok c
    simp only [if_pos c]
    simp only [below_is, le_eq h hx hy, Option.bind_some]
    exact Ev.now _
  · simp only [if_neg c]
    exact Ev.now _
theorem FnExactIsBelow : laws_FnExactIsBelow.Pure := by
  intro n p t b x y hn hp ht hb hx hy
  refine evRounds ?_
  unfold laws_FnExactIsBelow.f
  obtain ⟨s, hs, _, _, hl⟩ := szSystem n p t b 1048576 (by decide) (by decide) hp.2 ht.2 hb.2
  simp only [hs, Option.bind_some]
  by_cases c : s < 0
  · simp only [if_pos c]; exact Ev.now _
  · obtain ⟨l1, l2, l3⟩ := hl c
    have ts := toSystem n p t b l1 l2 l3
    have es := eqSystem n p t b l1 l2 l3
    simp only [if_neg c]
    refine Ev.bind ts ?_
    refine Ev.bind (specV n p t b x y) ?_
    refine Ev.bind ts ?_
    refine Ev.bind (implV n p t b x y) ?_
    simp only [bne_self_eq_false, Bool.false_eq_true, if_false, if_true, eq_self]
    refine Ev.bind ts ?_
    refine Ev.bind es ?_
    simp only [if_true]
    exact Ev.now _
end Go.Proofs.Ythdbijjkcoafiaa.Pure
