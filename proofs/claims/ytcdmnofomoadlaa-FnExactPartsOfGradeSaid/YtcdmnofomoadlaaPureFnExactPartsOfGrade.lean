/- FnExactPartsOfGrade: the pure statement. -/
import Derived.Test.YtcdmnofomoadlaaPf5
import Derived.Test.YtcdmnofomoadlaaB11
set_option linter.unusedSimpArgs false
set_option linter.unusedVariables false
namespace Go.Proofs.Ytcdmnofomoadlaa.Pure
open Go.RowKit Go.Proofs.Ytcdmnofomoadlaa.P Go.Proofs.YtcdmnofomoadlaaW.PrintWords Go.Proofs.YtcdmnofomoadlaaW.PrintLast
theorem partsBoth (n : Int) (p t : List Int) (b : List Bool) (n' : Int) (p' t' : List Int) (b' : List Bool) (x : Int) : ∃ v : Int × Int, Ev (fun k => spec_PartsOfGrade.f k n p t b n' p' t' b' x) v ∧ Ev (fun k => impl_PartsOfGrade.f k n p t b n' p' t' b' x) v := by
  by_cases c : prodV n p t b n' p' t' b' = true
  · obtain ⟨o, o', w, a, a', rfl, rfl, h16, e, L, T⟩ := prod_ok c
    have ix : inV x 0 (wrap64 (wrap64 ((a : Int) * (a' : Int)) - 1)) = true ↔ 0 ≤ x ∧ x < ((a * a' : Nat) : Int) := by
      rw [w, e, w64 (by omega) (by omega)]
      unfold inV
      rw [Bool.and_eq_true, decide_eq_true_eq, decide_eq_true_eq]
      omega
    by_cases hx : 0 ≤ x ∧ x < ((a * a' : Nat) : Int)
    · have ix1 := ix.mpr hx
      obtain ⟨x, rfl⟩ := Int.eq_ofNat_of_zero_le hx.1
      have f1 := T.first x (by omega)
      have f2 := T.second x (by omega)
      refine ⟨((rdP L x).f0, (rdP L x).f1), ?_, ?_⟩
      · unfold spec_PartsOfGrade.f
        refine Ev.bind specProd ?_
        simp only [c, if_true, in_eq, Option.bind_some, ix1, Bool.not_true]
        refine Ev.step (f := fun _ => some ((rdP L x).f0, (rdP L x).f1)) (fun k => ?_) (Ev.now _)
        simp only [spec_PartsOfGrade.j0, Bool.false_eq_true, if_false, f1, f2, Option.bind_some]
      · unfold impl_PartsOfGrade.f
        refine Ev.bind implProd ?_
        simp only [c, if_true, within_eq, Option.bind_some, ix1]
        refine Ev.bind (T.ev p t p' t' b b') ?_
        rw [if_pos hx.1, if_pos (by rw [T.len]; exact hx.2)]
        exact Ev.now _
    · have ix' : inV x 0 (wrap64 (wrap64 ((a : Int) * (a' : Int)) - 1)) = false := by rw [Bool.eq_false_iff]; exact fun h => hx (ix.mp h)
      refine ⟨(-1, -1), ?_, ?_⟩
      · unfold spec_PartsOfGrade.f
        refine Ev.bind specProd ?_
        simp only [c, if_true, in_eq, Option.bind_some, ix', Bool.not_false]
        refine Ev.step (f := fun _ => some (-1, -1)) (fun k => ?_) (Ev.now _)
        simp only [spec_PartsOfGrade.j0, if_true]
      · unfold impl_PartsOfGrade.f
        refine Ev.bind implProd ?_
        simp only [c, if_true, within_eq, Option.bind_some, ix', Bool.false_eq_true, if_false]
        exact Ev.now _
  · rw [Bool.not_eq_true] at c
    refine ⟨(-1, -1), ?_, ?_⟩
    · unfold spec_PartsOfGrade.f
      refine Ev.bind specProd ?_
      simp only [c, Bool.false_eq_true, if_false]
      refine Ev.step (f := fun _ => some (-1, -1)) (fun k => ?_) (Ev.now _)
      simp only [spec_PartsOfGrade.j0, if_true]
    · unfold impl_PartsOfGrade.f
      refine Ev.bind implProd ?_
      simp only [c, Bool.false_eq_true, if_false]
      exact Ev.now _
theorem FnExactPartsOfGrade : laws_FnExactPartsOfGrade.Pure := by
  intro n p t b n' p' t' b' x hn hp ht hb hn' hp' ht' hb' hx
  refine evRounds ?_
  unfold laws_FnExactPartsOfGrade.f
  obtain ⟨s, hs, hs1, hs2, hl⟩ := szSystem n p t b 1048576 (by decide) (by decide) hp.2 ht.2 hb.2
  simp only [hs, Option.bind_some]
  by_cases c : s < 0
  · simp only [if_pos c]; exact Ev.now _
  · simp only [if_neg c]
    obtain ⟨s', hs', _, _, hl'⟩ := szSystem n' p' t' b' s hs1 hs2 hp'.2 ht'.2 hb'.2
    simp only [hs', Option.bind_some]
    by_cases c' : s' < 0
    · simp only [if_pos c']; exact Ev.now _
    · obtain ⟨l1, l2, l3⟩ := hl c
      obtain ⟨l1', l2', l3'⟩ := hl' c'
      have ts := toSystem n p t b l1 l2 l3
      have es := eqSystem n p t b l1 l2 l3
      have ts' := toSystem n' p' t' b' l1' l2' l3'
      have es' := eqSystem n' p' t' b' l1' l2' l3'
      obtain ⟨v, v1, v2⟩ := partsBoth n p t b n' p' t' b' x
      simp only [if_neg c']
      refine Ev.bind ts ?_
      refine Ev.bind ts' ?_
      refine Ev.bind v1 ?_
      refine Ev.bind ts ?_
      refine Ev.bind ts' ?_
      refine Ev.bind v2 ?_
      simp only [bne_self_eq_false, if_true, eq_self]
      refine Ev.step (fun k => by simp only [laws_FnExactPartsOfGrade.j0, Bool.false_eq_true, if_false]; rfl) ?_
      refine Ev.bind ts ?_
      refine Ev.bind es ?_
      simp only [if_true]
      refine Ev.bind ts' ?_
      refine Ev.bind es' ?_
      simp only [if_true]
      exact Ev.now _
end Go.Proofs.Ytcdmnofomoadlaa.Pure
