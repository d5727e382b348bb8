/- FnExactSizeOfTerm: the pure statement. -/
import Derived.Test.YtnokgkhkmnldeaaPf8
import Derived.Test.YtnokgkhkmnldeaaB10
set_option linter.unusedSimpArgs false
set_option linter.unusedVariables false
namespace Go.Proofs.Ytnokgkhkmnldeaa.Pure
open Go.RowKit Go.Proofs.Ytnokgkhkmnldeaa.P Go.Proofs.YtnokgkhkmnldeaaW.PrintWords Go.Proofs.YtnokgkhkmnldeaaW.PrintLast
theorem FnExactSizeOfTerm : laws_FnExactSizeOfTerm.Pure := by
  intro p0 p1 p2 p3  h0 h1 h2 h3 
  refine evRounds ?_
  unfold laws_FnExactSizeOfTerm.f
  have hw : Wf43 ⟨p0, p1, p2, p3⟩ := .mk _ _ _ _ h0 h1 h2 h3.1 h3.2
  obtain ⟨s, es, s1, s2, s3⟩ := szTermE ⟨p0, p1, p2, p3⟩ hw 1048576 (by decide) (by decide)
  refine Ev.bind es ?_
  by_cases c : s < 0
  · simp only [if_pos c]; exact Ev.now _
  · simp only [if_neg c]
    have hs := s3 (by omega)
    have tt := toTermE ⟨p0, p1, p2, p3⟩ hs
    have te := eqTermE _ hs
    generalize conv ⟨p0, p1, p2, p3⟩ = x at hs tt te
    obtain ⟨v, hv1, hv2, hv3⟩ := writtenBoth x hs
    have hsp : Ev (fun k => spec_SizeOfTerm.f k x.f0 x.f1 x.f2 x.f3) (if v = true then (nodes x : Int) else -1) := by
      unfold spec_SizeOfTerm.f
      refine Ev.bind hv1 ?_
      cases v
      · simpa using Ev.now (-1 : Int)
      · have := hv3 rfl
        simp only [if_true]
        refine Ev.bind (specLeft x hs 400 (by omega) (by omega)) ?_
        unfold leftV
        rw [if_pos (by omega), w64 (by omega) (by omega), show (400 : Int) - (400 - nodes x) = nodes x by omega]
        exact Ev.now _
    have hi : Ev (fun k => impl_SizeOfTerm.f k x.f0 x.f1 x.f2 x.f3) (if v = true then (nodes x : Int) else -1) := by
      unfold impl_SizeOfTerm.f
      refine Ev.bind hv2 ?_
      cases v
      · simpa using Ev.now (-1 : Int)
      · have := hv3 rfl
        simp only [if_true, if_neg (show ¬ (nodes x : Int) > 400 by omega)]
        exact Ev.now _
    refine Ev.bind tt ?_
    refine Ev.bind (hsp) ?_
    refine Ev.bind tt ?_
    refine Ev.bind (hi) ?_
    simp only [bne_self_eq_false, Bool.false_eq_true, if_false, if_true, eq_self]
    refine Ev.bind tt ?_
    refine Ev.bind te ?_
    simp only [if_true]
    exact Ev.now _
end Go.Proofs.Ytnokgkhkmnldeaa.Pure
