/- FnExactPairGrades: the pure statement. -/
import Derived.Test.YtcdmnofomoadlaaPf4
import Derived.Test.YtcdmnofomoadlaaB11
set_option linter.unusedSimpArgs false
set_option linter.unusedVariables false
namespace Go.Proofs.Ytcdmnofomoadlaa.Pure
open Go.RowKit Go.Proofs.Ytcdmnofomoadlaa.P Go.Proofs.YtcdmnofomoadlaaW.PrintWords Go.Proofs.YtcdmnofomoadlaaW.PrintLast
theorem pairBoth (n : Int) (p t : List Int) (b : List Bool) (n' : Int) (p' t' : List Int) (b' : List Bool) (x y : Int) : ∃ v : Int, Ev (fun k => spec_PairGrades.f k n p t b n' p' t' b' x y) v ∧ Ev (fun k => impl_PairGrades.f k n p t b n' p' t' b' x y) v := by
  by_cases c : prodV n p t b n' p' t' b' = true
  · obtain ⟨o, o', w, a, a', rfl, rfl, h16, e, L, T⟩ := prod_ok c
    have ix : inV x 0 (wrap64 ((a : Int) - 1)) = true ↔ _ := inV_Rg o (x := x)
    have iy : inV y 0 (wrap64 ((a' : Int) - 1)) = true ↔ _ := inV_Rg o' (x := y)
    unfold Rg at ix iy
    by_cases hx : 0 ≤ x ∧ x < a
    · by_cases hy : 0 ≤ y ∧ y < a'
      · obtain ⟨x, rfl⟩ := Int.eq_ofNat_of_zero_le hx.1
        obtain ⟨y, rfl⟩ := Int.eq_ofNat_of_zero_le hy.1
        obtain ⟨g, hg, _⟩ := T.num x y (by omega) (by omega)
        refine ⟨g, ?_, ?_⟩
        · unfold spec_PairGrades.f
          refine Ev.bind specProd ?_
          simp only [c, if_true, in_eq, Option.bind_some, ix.mpr hx, iy.mpr hy, hg]
          exact Ev.now _
        · unfold impl_PairGrades.f
          refine Ev.bind implProd ?_
          simp only [c, if_true]
          refine Ev.bind (T.ev p t p' t' b b') ?_
          simp only [Option.bind_fun_some]
          exact Ev.of (index_more _ _ _) ((T.idx x y (by omega) (by omega)).trans hg)
      · have iy' : inV y 0 (wrap64 ((a' : Int) - 1)) = false := by rw [Bool.eq_false_iff]; exact fun h => hy (iy.mp h)
        refine ⟨-1, ?_, ?_⟩
        · unfold spec_PairGrades.f
          refine Ev.bind specProd ?_
          simp only [c, if_true, in_eq, Option.bind_some, ix.mpr hx, iy', Bool.false_eq_true, if_false]
          exact Ev.now _
        · unfold impl_PairGrades.f
          refine Ev.bind implProd ?_
          simp only [c, if_true]
          refine Ev.bind (T.ev p t p' t' b b') ?_
          simp only [Option.bind_fun_some]
          refine index_none _ (by rw [T.len]; omega) _ _ fun q hq hh => hy ?_
          have := T.inr q hq
          omega
    · have ix' : inV x 0 (wrap64 ((a : Int) - 1)) = false := by rw [Bool.eq_false_iff]; exact fun h => hx (ix.mp h)
      refine ⟨-1, ?_, ?_⟩
      · unfold spec_PairGrades.f
        refine Ev.bind specProd ?_
        simp only [c, if_true, in_eq, Option.bind_some, ix', Bool.false_eq_true, if_false]
        exact Ev.now _
      · unfold impl_PairGrades.f
        refine Ev.bind implProd ?_
        simp only [c, if_true]
        refine Ev.bind (T.ev p t p' t' b b') ?_
        simp only [Option.bind_fun_some]
        refine index_none _ (by rw [T.len]; omega) _ _ fun q hq hh => hx ?_
        have := T.inr q hq
        omega
  · rw [Bool.not_eq_true] at c
    refine ⟨-1, ?_, ?_⟩
    · unfold spec_PairGrades.f
      refine Ev.bind specProd ?_
      simp only [c, Bool.false_eq_true, if_false]
      exact Ev.now _
    · unfold impl_PairGrades.f
      refine Ev.bind implProd ?_
      simp only [c, Bool.false_eq_true, if_false]
      exact Ev.now _
theorem FnExactPairGrades : laws_FnExactPairGrades.Pure := by
  intro n p t b n' p' t' b' x y hn hp ht hb hn' hp' ht' hb' hx hy
  refine evRounds ?_
  unfold laws_FnExactPairGrades.f
  obtain ⟨s, hs, hs1, hs2, hl⟩ := szSystem n p t b 1048576 (by decide) (by decide) hp.2 ht.2 hb.2
  simp only [hs, Option.bind_some]
  by_cases c : s < 0
  · simp only [if_pos c]; exact Ev.now _
  · simp only [if_neg c]
    obtain ⟨s', hs', _, _, hl'⟩ := szSystem n' p' t' b' s hs1 hs2 hp'.2 ht'.2 hb'.2
    simp only [hs', Option.bind_some]
    by_cases c' : s' < 0
    · simp only [if_pos c']; exact Ev.now _
    · obtain ⟨l1, l2, l3⟩ := hl c
      obtain ⟨l1', l2', l3'⟩ := hl' c'
      have ts := toSystem n p t b l1 l2 l3
      have es := eqSystem n p t b l1 l2 l3
      have ts' := toSystem n' p' t' b' l1' l2' l3'
      have es' := eqSystem n' p' t' b' l1' l2' l3'
      obtain ⟨v, v1, v2⟩ := pairBoth n p t b n' p' t' b' x y
      simp only [if_neg c']
      refine Ev.bind ts ?_
      refine Ev.bind ts' ?_
      refine Ev.bind v1 ?_
      refine Ev.bind ts ?_
      refine Ev.bind ts' ?_
      refine Ev.bind v2 ?_
      simp only [bne_self_eq_false, Bool.false_eq_true, if_false, if_true, eq_self]
      refine Ev.bind ts ?_
      refine Ev.bind es ?_
      simp only [if_true]
      refine Ev.bind ts' ?_
      refine Ev.bind es' ?_
      simp only [if_true]
      exact Ev.now _
end Go.Proofs.Ytcdmnofomoadlaa.Pure
