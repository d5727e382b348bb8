/- What is written. -/
import Derived.Test.YtnokgkhkmnldeaaPf32
import Derived.Test.YtnokgkhkmnldeaaPf72
import Derived.Test.YtnokgkhkmnldeaaPf61
import Derived.Test.YtnokgkhkmnldeaaB9
set_option linter.unusedSimpArgs false
set_option linter.unusedVariables false
namespace Go.Proofs.Ytnokgkhkmnldeaa.Pure
open Go.RowKit Go.Proofs.Ytnokgkhkmnldeaa.P Go.Proofs.YtnokgkhkmnldeaaW.PrintWords Go.Proofs.YtnokgkhkmnldeaaW.PrintLast
theorem grade_small (c : Int) (h : kidsV c > 0) (h2 : c > 2) : ∃ v, spec_l2Grade.f c = some v ∧ v < 16 := by
  unfold kidsV at h
  unfold spec_l2Grade.f
  by_cases c1 : c ≥ 35
  · exact ⟨-1, if_pos c1, by omega⟩
  · rw [if_neg c1]
    by_cases c2 : c ≥ 19
    · rw [if_pos c2, w64 (by omega) (by omega)]; exact ⟨_, rfl, by omega⟩
    · rw [if_neg c2, w64 (by omega) (by omega)]; exact ⟨_, rfl, by omega⟩
theorem specGraded16 (xs : List Int) (hl : xs.length ≤ 1048576) : Ev (fun k => spec_l2Graded.f k xs 16 false) true := by
  unfold spec_l2Graded.f
  have hh : (findO (fun _ => (none : Option Bool)) 0 xs.length).getD true = true := by rw [findO_nil]; rfl
  rw [← hh]
  refine loop (F := fun k i => spec_l2Graded.l0 k xs 16 false i) (n := (xs.length : Int)) ?_ ?_ xs.length 0 (by omega) (by omega)
  · refine Ev.step (f := fun _ => some true) (fun k => ?_) (Ev.now _)
    simp only [spec_l2Graded.l0]; rw [if_neg (by omega)]
  · intro i h0 h1 r hr
    have up : wrap64 (i + 1) = i + 1 := w64 (by omega) (by omega)
    have open_ : ∀ k, spec_l2Graded.l0 (k + 2) xs 16 false i = spec_l2Graded.l0 k xs 16 false (i + 1) := by
      intro k
      show (if i < (xs.length : Int) then _ else _) = _
      rw [if_pos h1, if_pos h0, kids_eq, Option.bind_some]
      by_cases ck : kidsV (rd xs i) > 0
      · rw [if_pos ck]
        by_cases c2 : rd xs i > 2
        · obtain ⟨v, eg, hv⟩ := grade_small (rd xs i) ck c2
          rw [decide_eq_true c2]
          simp only [spec_l2Graded.j1, if_true, if_pos h0, if_pos h1, eg, Option.bind_some, up, if_neg (show ¬ v ≥ 16 by omega), Bool.false_eq_true, if_false]
        · rw [decide_eq_false c2]
          simp only [spec_l2Graded.j1, Bool.false_eq_true, if_false, up]
      · rw [if_neg ck]
        simp only [spec_l2Graded.j1, Bool.false_eq_true, if_false, up]
    obtain ⟨K, hK⟩ := hr
    refine ⟨K + 2, fun k hk => ?_⟩
    obtain ⟨k, rfl⟩ : ∃ q, k = q + 2 := ⟨k - 2, by omega⟩
    show spec_l2Graded.l0 (k + 2) xs 16 false i = _
    rw [open_]
    exact hK k (by omega)
theorem writtenBoth (x : S48) (hs : Small x) : ∃ v : Bool, (v = true → Fine x 8) ∧ Ev (fun k => spec_IsWritten.f k x.f0 x.f1 x.f2 x.f3) v ∧ Ev (fun k => impl_writtenSize.f k x.f0 x.f1 x.f2 x.f3) (if v = true then (nodes x : Int) else 401) ∧ (v = true → nodes x ≤ 400) := by
  obtain ⟨v, h0, h1, h2⟩ := termBoth (g := fun N => inV N (-1) 15) (T := writtenV) (n := 16) (strict := false) (x2 := fun z => impl_writtenSize_1.f z) (x3 := fun j z => impl_isWrittenType.f j z)
    (fun N => by
      by_cases c : -1 ≤ N ∧ N ≤ 15
      · rw [(inV_iff _ _ _).mpr c, if_neg (by omega), if_neg (by omega)]; rfl
      · have e : inV N (-1) 15 = false := by rw [Bool.eq_false_iff]; exact fun hh => c ((inV_iff _ _ _).mp hh)
        rw [e]
        by_cases c1 : N ≥ 16
        · rw [if_pos c1]
        · rw [if_neg c1, if_pos (by omega)])
    (fun ty hty => by
      refine Ev.bind (specWritten ty hty) ?_
      cases writtenV ty
      · simpa using Ev.now false
      · simp only [if_true]
        exact Ev.bind (specGraded16 ty hty) (Ev.now _))
    (fun N => by unfold impl_writtenSize_1.f; rw [within_eq]; rfl) (fun ty hty => implWritten ty hty) x hs 8
  have hl := specLeft x hs 400 (by omega) (by omega)
  have hc := ev2_diag (h2 0 (by omega) (by omega))
  by_cases c : (nodes x : Int) ≤ 400
  · refine ⟨v, h0, ?_, ?_, fun _ => by omega⟩
    · unfold spec_IsWritten.f
      refine Ev.bind hl ?_
      unfold leftV
      rw [if_pos c]
      simp only [if_pos (show (400 : Int) - nodes x ≥ 0 by omega), Option.bind_fun_some]
      exact h1
    · unfold impl_writtenSize.f
      simp only [Option.bind_fun_some]
      unfold outV at hc
      rw [Int.zero_add] at hc
      cases v
      · simpa using hc
      · simpa [c] using hc
  · refine ⟨false, (fun h => by cases h), ?_, ?_, (fun h => by cases h)⟩
    · unfold spec_IsWritten.f
      refine Ev.bind hl ?_
      unfold leftV
      rw [if_neg c]
      simpa using Ev.now false
    · unfold impl_writtenSize.f
      simp only [Option.bind_fun_some]
      unfold outV at hc
      rw [Int.zero_add, if_neg (fun hh => c hh.2)] at hc
      simpa using hc
end Go.Proofs.Ytnokgkhkmnldeaa.Pure
