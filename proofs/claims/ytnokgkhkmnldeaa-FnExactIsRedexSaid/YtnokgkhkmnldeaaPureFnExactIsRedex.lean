/- FnExactIsRedex: the pure statement. -/
import Derived.Test.YtnokgkhkmnldeaaPf10
import Derived.Test.YtnokgkhkmnldeaaB10
set_option linter.unusedSimpArgs false
set_option linter.unusedVariables false
namespace Go.Proofs.Ytnokgkhkmnldeaa.Pure
open Go.RowKit Go.Proofs.Ytnokgkhkmnldeaa.P Go.Proofs.YtnokgkhkmnldeaaW.PrintWords Go.Proofs.YtnokgkhkmnldeaaW.PrintLast
theorem redexE (x : S48) (h : Fine x 8) : ∃ b, spec_l4Redex.f x.f0 x.f1 x.f2 x.f3 = some b := by
  have hl : (x.f3.length : Int) = manyV x.f0 := by cases h with | mk _ _ _ hl _ => exact hl
  unfold spec_l4Redex.f
  by_cases c : (x.f3.length : Int) = 0
  · rw [if_pos c]; exact ⟨_, rfl⟩
  · rw [if_neg c, if_pos (show 0 < (x.f3.length : Int) by omega)]
    by_cases c2 : x.f0 = 2
    · have h2 : 1 < (x.f3.length : Int) := by rw [hl, c2]; decide
      rw [if_pos c2, if_pos h2]
      split <;> exact ⟨_, rfl⟩
    · rw [if_neg c2]
      repeat' split
      all_goals exact ⟨_, rfl⟩
theorem redex_is : impl_isRedex.f = spec_l4Redex.f := rfl
theorem FnExactIsRedex : laws_FnExactIsRedex.Pure := by
  intro p0 p1 p2 p3  h0 h1 h2 h3 
  refine evRounds ?_
  unfold laws_FnExactIsRedex.f
  have hw : Wf43 ⟨p0, p1, p2, p3⟩ := .mk _ _ _ _ h0 h1 h2 h3.1 h3.2
  obtain ⟨s, es, s1, s2, s3⟩ := szTermE ⟨p0, p1, p2, p3⟩ hw 1048576 (by decide) (by decide)
  refine Ev.bind es ?_
  by_cases c : s < 0
  · simp only [if_pos c]; exact Ev.now _
  · simp only [if_neg c]
    have hs := s3 (by omega)
    have tt := toTermE ⟨p0, p1, p2, p3⟩ hs
    have te := eqTermE _ hs
    generalize conv ⟨p0, p1, p2, p3⟩ = x at hs tt te
    obtain ⟨v, hv0, hv1, hv2, hv3⟩ := writtenBoth x hs
    have hi0 : Ev (fun k => impl_IsWritten.f k x.f0 x.f1 x.f2 x.f3) v := by
      unfold impl_IsWritten.f
      refine Ev.bind hv2 ?_
      cases v
      · simpa using Ev.now false
      · simp only [if_true, decide_eq_true (show (nodes x : Int) ≤ 400 by have := hv3 rfl; omega)]
        exact Ev.now _
    obtain ⟨b, hb⟩ : ∃ b : Bool, v = true → spec_l4Redex.f x.f0 x.f1 x.f2 x.f3 = some b := by
      cases v
      · exact ⟨false, fun h => by cases h⟩
      · obtain ⟨b, hb⟩ := redexE x (hv0 rfl)
        exact ⟨b, fun _ => hb⟩
    have hsp : Ev (fun k => spec_IsRedex.f k x.f0 x.f1 x.f2 x.f3) (if v = true then b else false) := by
      unfold spec_IsRedex.f
      refine Ev.bind hv1 ?_
      cases v
      · simpa using Ev.now false
      · simp only [if_true, hb rfl, Option.bind_some]; exact Ev.now _
    have hi : Ev (fun k => impl_IsRedex.f k x.f0 x.f1 x.f2 x.f3) (if v = true then b else false) := by
      unfold impl_IsRedex.f
      refine Ev.bind hi0 ?_
      cases v
      · simpa using Ev.now false
      · simp only [if_true, redex_is, hb rfl, Option.bind_some]; exact Ev.now _
    refine Ev.bind tt ?_
    refine Ev.bind (hsp) ?_
    refine Ev.bind tt ?_
    refine Ev.bind (hi) ?_
    simp only [bne_self_eq_false, Bool.false_eq_true, if_false, if_true, eq_self]
    refine Ev.bind tt ?_
    refine Ev.bind te ?_
    simp only [if_true]
    exact Ev.now _
end Go.Proofs.Ytnokgkhkmnldeaa.Pure
