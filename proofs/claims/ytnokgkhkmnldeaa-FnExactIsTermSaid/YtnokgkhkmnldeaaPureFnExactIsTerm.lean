/- FnExactIsTerm: the pure statement. -/
import Derived.Test.YtnokgkhkmnldeaaPf12
import Derived.Test.YtnokgkhkmnldeaaM14
import Derived.Test.YtnokgkhkmnldeaaM13
set_option linter.unusedSimpArgs false
set_option linter.unusedVariables false
namespace Go.Proofs.Ytnokgkhkmnldeaa.Pure
open Go.RowKit Go.Proofs.Ytnokgkhkmnldeaa.P Go.Proofs.YtnokgkhkmnldeaaW.PrintWords Go.Proofs.YtnokgkhkmnldeaaW.PrintLast
theorem in_bound (n x : Int) : inV x 0 (wrap64 (n - 1)) = true ↔ 0 ≤ x ∧ x < wrap64 (n - 1) + 1 := by
  rw [inV_iff]; omega
theorem specGradedB (n : Int) (xs : List Int) (hl : xs.length ≤ 1048576) : Ev (fun k => spec_l2Graded.f k xs (wrap64 (n - 1) + 1) true) ((findO (gf n xs) 0 xs.length).getD true) := by
  unfold spec_l2Graded.f
  refine loop (F := fun k i => spec_l2Graded.l0 k xs (wrap64 (n - 1) + 1) true i) (n := (xs.length : Int)) ?_ ?_ xs.length 0 (by omega) (by omega)
  · refine Ev.step (f := fun _ => some true) (fun k => ?_) (Ev.now _)
    simp only [spec_l2Graded.l0]; rw [if_neg (by omega)]
  · intro i h0 h1 r hr
    have up : wrap64 (i + 1) = i + 1 := w64 (by omega) (by omega)
    have open_ : ∀ k, spec_l2Graded.l0 (k + 2) xs (wrap64 (n - 1) + 1) true i = if gbad n (rd xs i) = true then some false else spec_l2Graded.l0 k xs (wrap64 (n - 1) + 1) true (i + 1) := by
      intro k
      show (if i < (xs.length : Int) then _ else _) = _
      rw [if_pos h1, if_pos h0, kids_eq, Option.bind_some]
      by_cases ck : kidsV (rd xs i) > 0
      · rw [if_pos ck]
        by_cases c2 : rd xs i > 2
        · obtain ⟨eg, es⟩ := grade_eq (rd xs i) ck c2
          rw [decide_eq_true c2]
          simp only [spec_l2Graded.j1, if_true, if_pos h0, if_pos h1, eg, Option.bind_some, up]
          unfold gbad
          rw [decide_eq_true es, Bool.true_and]
          have hin := in_bound n (shapeV (rd xs i)).2
          by_cases g1 : (shapeV (rd xs i)).2 ≥ wrap64 (n - 1) + 1
          · have : inV (shapeV (rd xs i)).2 0 (wrap64 (n - 1)) = false := by rw [Bool.eq_false_iff]; exact fun hh => by have := hin.mp hh; omega
            simp [g1, this]
          · by_cases g2 : (shapeV (rd xs i)).2 < 0
            · have : inV (shapeV (rd xs i)).2 0 (wrap64 (n - 1)) = false := by rw [Bool.eq_false_iff]; exact fun hh => by have := hin.mp hh; omega
              simp [g1, g2, this]
            · have : inV (shapeV (rd xs i)).2 0 (wrap64 (n - 1)) = true := hin.mpr (by omega)
              simp [g1, g2, this]
        · rw [decide_eq_false c2]
          have : gbad n (rd xs i) = false := by
            unfold gbad
            have : ¬ ((shapeV (rd xs i)).1 = 3 ∨ (shapeV (rd xs i)).1 = 4) := by
              unfold shapeV kidsV at *
              repeat' split at ck
              all_goals first | omega | (rw [if_pos (by omega)]; simp; omega)
            rw [decide_eq_false this]; rfl
          simp only [spec_l2Graded.j1, this, Bool.false_eq_true, if_false, up]
      · rw [if_neg ck]
        have : gbad n (rd xs i) = false := by
          obtain ⟨k5, k0, k1, k2⟩ := kids_shape (rd xs i)
          unfold gbad
          have : ¬ ((shapeV (rd xs i)).1 = 3 ∨ (shapeV (rd xs i)).1 = 4) := by
            rintro (hh | hh)
            · have := k2.mpr (Or.inr (Or.inr hh)); omega
            · have := k1.mpr hh; omega
          rw [decide_eq_false this]; rfl
        simp only [spec_l2Graded.j1, this, Bool.false_eq_true, if_false, up]
    obtain ⟨K, hK⟩ := hr
    refine ⟨K + 2, fun k hk => ?_⟩
    obtain ⟨k, rfl⟩ : ∃ q, k = q + 2 := ⟨k - 2, by omega⟩
    show spec_l2Graded.l0 (k + 2) xs (wrap64 (n - 1) + 1) true i = _
    rw [open_]
    unfold gf
    cases gbad n (rd xs i)
    · simpa using hK k (by omega)
    · simp
section
variable (n : Int) (p t : List Int) (b : List Bool)
theorem termWalk (x : S48) (hs : Small x) (d : Int) : ∃ v : Bool, Ev (fun k => spec_l2Term.f k x.f0 x.f1 x.f2 x.f3 d (wrap64 (n - 1) + 1) true) v ∧ Ev (fun k => impl_check.f k x.f0 x.f1 x.f2 x.f3 d (fun z => impl_System_has.f n p t b z) (fun z => impl_isTermOf_1.f k z n p t b) 0) (outV v 0 (nodes x)) := by
  obtain ⟨v, _, h1, h2⟩ := termBoth (g := fun N => inV N 0 (wrap64 (n - 1))) (T := typeV n) (n := wrap64 (n - 1) + 1) (strict := true) (x2 := fun z => impl_System_has.f n p t b z) (x3 := fun j z => impl_isTermOf_1.f j z n p t b)
    (fun N => by
      by_cases c : 0 ≤ N ∧ N < wrap64 (n - 1) + 1
      · rw [(in_bound n N).mpr c, if_neg (by omega), if_neg (by omega), if_pos rfl, if_neg (by omega)]
      · have e : inV N 0 (wrap64 (n - 1)) = false := by rw [Bool.eq_false_iff]; exact fun hh => c ((in_bound n N).mp hh)
        rw [e]
        by_cases c1 : N ≥ wrap64 (n - 1) + 1
        · rw [if_pos c1]
        · rw [if_neg c1]
          by_cases c2 : N < -1
          · rw [if_pos c2]
          · rw [if_neg c2, if_pos rfl, if_pos (by omega)])
    (fun ty hty => by
      unfold typeV
      refine Ev.bind (specWritten ty hty) ?_
      cases writtenV ty
      · simpa using Ev.now false
      · simp only [if_true, Bool.true_and]
        exact Ev.bind (specGradedB n ty hty) (Ev.now _))
    (fun N => has_eq N)
    (fun ty hty => by
      unfold impl_isTermOf_1.f
      exact Ev.bind (implType n p t b ty hty) (Ev.now _)) x hs d
  exact ⟨v, h1, ev2_diag (h2 0 (by omega) (by omega))⟩
theorem termV (x : S48) (hs : Small x) (d : Int) : ∃ v : Bool, Ev (fun k => spec_IsTerm.f k n p t b x.f0 x.f1 x.f2 x.f3 d) v ∧ Ev (fun k => impl_IsTerm.f k n p t b x.f0 x.f1 x.f2 x.f3 d) v := by
  obtain ⟨v, h1, h2⟩ := termWalk n p t b x hs d
  have hl := specLeft x hs 400 (by omega) (by omega)
  have hc : outV v 0 (nodes x) ≤ 400 ↔ v = true ∧ (nodes x : Int) ≤ 400 := by
    unfold outV
    by_cases c : v = true ∧ (0 : Int) + (nodes x : Int) ≤ 400
    · rw [if_pos c]; exact ⟨fun _ => ⟨c.1, by omega⟩, fun _ => by omega⟩
    · rw [if_neg c]; exact ⟨fun hh => by omega, fun hh => absurd ⟨hh.1, by omega⟩ c⟩
  have hi : Ev (fun k => impl_isTermOf.f k n p t b x.f0 x.f1 x.f2 x.f3 d) (inV d 0 8 && decide (outV v 0 (nodes x) ≤ 400)) := by
    unfold impl_isTermOf.f
    simp only [within_eq, Option.bind_some]
    cases inV d 0 8
    · simpa using Ev.now false
    · simp only [if_true, Bool.true_and]
      exact Ev.bind h2 (Ev.now _)
  refine ⟨sysV n p t b && (inV d 0 8 && decide (outV v 0 (nodes x) ≤ 400)), ?_, ?_⟩
  · unfold spec_IsTerm.f
    refine Ev.bind (specSystem n p t b) ?_
    cases c : sysV n p t b
    · simpa using Ev.now false
    · have o := sysV_ok c
      have e : wrap64 (n - 1) + 1 = n := by have := o.lo; have := o.hi; rw [w64 (by omega) (by omega)]; omega
      simp only [if_true, Bool.true_and, in_eq, Option.bind_some]
      cases inV d 0 8
      · simpa using Ev.now false
      · simp only [if_true, Bool.true_and]
        refine Ev.bind hl ?_
        unfold leftV
        by_cases cn : (nodes x : Int) ≤ 400
        · simp only [if_pos cn, if_pos (show (400 : Int) - nodes x ≥ 0 by omega), Option.bind_fun_some]
          rw [e] at h1
          have : decide (outV v 0 (nodes x) ≤ 400) = v := by
            cases v
            · exact decide_eq_false fun hh => by have := (hc.mp hh).1; cases this
            · exact decide_eq_true (hc.mpr ⟨rfl, cn⟩)
          rw [this]
          exact h1
        · have : decide (outV v 0 (nodes x) ≤ 400) = false := decide_eq_false fun hh => cn (hc.mp hh).2
          rw [if_neg cn, this]
          simpa using Ev.now false
  · unfold impl_IsTerm.f
    refine Ev.bind hi ?_
    cases (inV d 0 8 && decide (outV v 0 (nodes x) ≤ 400))
    · simpa using Ev.now false
    · simp only [if_true, Bool.and_true, Option.bind_fun_some]
      exact implSystem n p t b
end
theorem FnExactIsTerm : laws_FnExactIsTerm.Pure := by
  intro n p t b p0 p1 p2 p3 d hn hp ht hb h0 h1 h2 h3 hd
  refine evRounds ?_
  unfold laws_FnExactIsTerm.f
  obtain ⟨s, hs, hs1, hs2, hl⟩ := szSystem n p t b 1048576 (by decide) (by decide) hp.2 ht.2 hb.2
  simp only [hs, Option.bind_some]
  by_cases c : s < 0
  · simp only [if_pos c]; exact Ev.now _
  · simp only [if_neg c]
    have hw : Wf43 ⟨p0, p1, p2, p3⟩ := .mk _ _ _ _ h0 h1 h2 h3.1 h3.2
    obtain ⟨s', es, s1, s2, s3⟩ := szTermE ⟨p0, p1, p2, p3⟩ hw s (by omega) (by omega)
    refine Ev.bind es ?_
    by_cases c' : s' < 0
    · simp only [if_pos c']; exact Ev.now _
    · simp only [if_neg c']
      have hsm := s3 (by omega)
      have tt := toTermE ⟨p0, p1, p2, p3⟩ hsm
      have te := eqTermE _ hsm
      generalize conv ⟨p0, p1, p2, p3⟩ = x at hsm tt te
      obtain ⟨l1, l2, l3⟩ := hl c
      have ts := toSystem n p t b l1 l2 l3
      have ess := eqSystem n p t b l1 l2 l3
      obtain ⟨v, v1, v2⟩ := termV n p t b x hsm d
      refine Ev.bind ts ?_
      refine Ev.bind tt ?_
      refine Ev.bind v1 ?_
      refine Ev.bind ts ?_
      refine Ev.bind tt ?_
      refine Ev.bind v2 ?_
      simp only [bne_self_eq_false, Bool.false_eq_true, if_false, if_true, eq_self]
      refine Ev.bind ts ?_
      refine Ev.bind ess ?_
      simp only [if_true]
      refine Ev.bind tt ?_
      refine Ev.bind te ?_
      simp only [if_true]
      exact Ev.now _
end Go.Proofs.Ytnokgkhkmnldeaa.Pure
