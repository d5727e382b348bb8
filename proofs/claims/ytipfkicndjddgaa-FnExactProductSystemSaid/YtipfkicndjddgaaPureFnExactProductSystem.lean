/- FnExactProductSystem: the pure statement. -/
import Derived.Test.YtipfkicndjddgaaPf3
import Derived.Test.YtipfkicndjddgaaM10
set_option linter.unusedSimpArgs false
set_option linter.unusedVariables false
namespace Go.Proofs.Ytipfkicndjddgaa.Pure
open Go.RowKit Go.Proofs.Ytipfkicndjddgaa.P Go.Proofs.YtipfkicndjddgaaW.PrintWords Go.Proofs.YtipfkicndjddgaaW.PrintLast
theorem FnExactProductSystem : laws_FnExactProductSystem.Pure := by
  intro n p t b n' p' t' b' hn hp ht hb hn' hp' ht' hb'
  refine evRounds ?_
  unfold laws_FnExactProductSystem.f
  obtain ⟨s, hs, hs1, hs2, hl⟩ := szSystem n p t b 1048576 (by decide) (by decide) hp.2 ht.2 hb.2
  simp only [hs, Option.bind_some]
  by_cases c : s < 0
  · simp only [if_pos c]; exact Ev.now _
  · simp only [if_neg c]
    obtain ⟨s', hs', _, _, hl'⟩ := szSystem n' p' t' b' s hs1 hs2 hp'.2 ht'.2 hb'.2
    simp only [hs', Option.bind_some]
    by_cases c' : s' < 0
    · simp only [if_pos c']; exact Ev.now _
    · obtain ⟨l1, l2, l3⟩ := hl c
      obtain ⟨l1', l2', l3'⟩ := hl' c'
      have ts := toSystem n p t b l1 l2 l3
      have es := eqSystem n p t b l1 l2 l3
      have ts' := toSystem n' p' t' b' l1' l2' l3'
      have es' := eqSystem n' p' t' b' l1' l2' l3'
      obtain ⟨r1, r2, r3, r4, r5, ⟨q1, q2, q3⟩, v1, v2⟩ := prodBoth n p t b n' p' t' b'
      have er := eqSystem r1 r2 r3 r4 q1 q2 q3
      simp only [if_neg c']
      refine Ev.bind ts ?_
      refine Ev.bind ts' ?_
      refine Ev.bind v1 ?_
      refine Ev.bind v2 ?_
      refine Ev.bind er ?_
      refine Ev.bind es ?_
      refine Ev.bind es' ?_
      refine Ev.bind (markSys n p t b 1 l1 l2 l3 (by decide) (by decide)) ?_
      refine Ev.bind (markSys n' p' t' b' (1 + p.length + t.length + b.length) l1' l2' l3' (by omega) (by omega)) ?_
      refine Ev.bind (markSys r1 r2 r3 r4 1 q1 q2 q3 (by decide) (by decide)) ?_
      refine Ev.bind (heldSys r1 r2.length r3.length r4.length 1 q1 q2 q3 (by decide) (by decide)) ?_
      simp only [Bool.true_and, decide_true, decide_eq_true (show ¬ (1 + (p.length : Int) + t.length + b.length + p'.length + t'.length + b'.length < 0) by omega), decide_eq_true (show ¬ (1 + (r2.length : Int) + r3.length + r4.length < 0) by omega)]
      exact Ev.now _
end Go.Proofs.Ytipfkicndjddgaa.Pure
