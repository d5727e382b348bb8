/- FnExactViewsOf: the pure statement. -/
import Derived.Test.YtipfkicndjddgaaM10
import Derived.Test.YtipfkicndjddgaaB31
import Derived.Test.YtipfkicndjddgaaM9
set_option linter.unusedSimpArgs false
set_option linter.unusedVariables false
namespace Go.Proofs.Ytipfkicndjddgaa.Pure
open Go.RowKit Go.Proofs.Ytipfkicndjddgaa.P Go.Proofs.YtipfkicndjddgaaW.PrintWords Go.Proofs.YtipfkicndjddgaaW.PrintLast
theorem total_le : ∀ l : List (List Int), (∀ a ∈ l, a.length ≤ 16) → total l ≤ 16 * (l.length : Int)
  | [], _ => by simp [total]
  | a :: l, h => by
    have h1 := h a (List.mem_cons_self ..)
    have h2 := total_le l fun x hx => h x (List.mem_cons_of_mem _ hx)
    unfold total
    simp only [List.length_cons]
    omega
theorem FnExactViewsOf : laws_FnExactViewsOf.Pure := by
  intro n p t b hn hp ht hb
  refine evRounds ?_
  unfold laws_FnExactViewsOf.f
  obtain ⟨s, hs, _, _, hl⟩ := szSystem n p t b 1048576 (by decide) (by decide) hp.2 ht.2 hb.2
  simp only [hs, Option.bind_some]
  by_cases c : s < 0
  · simp only [if_pos c]; exact Ev.now _
  · obtain ⟨l1, l2, l3⟩ := hl c
    have ts := toSystem n p t b l1 l2 l3
    have es := eqSystem n p t b l1 l2 l3
    obtain ⟨r, r1, r2, v1, v2⟩ := viewsAll n p t b
    have rt := total_le r r2
    have rn := total_nn r
    simp only [if_neg c]
    refine Ev.bind ts ?_
    refine Ev.bind v1 ?_
    refine Ev.bind v2 ?_
    refine Ev.bind (eqIntSS r ⟨by omega, fun a ha => by have := r2 a ha; omega⟩) ?_
    refine Ev.bind es ?_
    refine Ev.bind (markSys n p t b 1 l1 l2 l3 (by decide) (by decide)) ?_
    refine Ev.bind (markIntSS r 1 (by decide) (by omega) (by omega)) ?_
    refine Ev.bind (heldIntSS r 1 (by decide) (by omega) (by omega)) ?_
    simp only [Bool.true_and, decide_true, decide_eq_true (show ¬ (1 + (p.length : Int) + t.length + b.length < 0) by omega), decide_eq_true (show ¬ (1 + total r < 0) by omega)]
    exact Ev.now _
end Go.Proofs.Ytipfkicndjddgaa.Pure
