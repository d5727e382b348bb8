/- FnExactShiftTerm: the pure statement. -/
import Derived.Test.YtipfkicndjddgaaM12
set_option linter.unusedSimpArgs false
set_option linter.unusedVariables false
namespace Go.Proofs.Ytipfkicndjddgaa.Pure
open Go.RowKit Go.Proofs.Ytipfkicndjddgaa.P Go.Proofs.YtipfkicndjddgaaW.PrintWords Go.Proofs.YtipfkicndjddgaaW.PrintLast
theorem shiftTermBoth (x : S40) (hx : weight x ≤ 1048576) (by_ from_ : Int) : ∃ (z : S40) (b : Bool), Ev (fun k => spec_ShiftTerm.f k x.f0 x.f1 x.f2 x.f3 by_ from_) (z.f0, z.f1, z.f2, z.f3, b) ∧ Ev (fun k => impl_ShiftTerm.f k x.f0 x.f1 x.f2 x.f3 by_ from_) (z.f0, z.f1, z.f2, z.f3, b) ∧ weight z ≤ 1048576 := by
  obtain ⟨v, vf, v1, v2⟩ := writtenFx x (small_weight x hx)
  unfold spec_ShiftTerm.f impl_ShiftTerm.f
  by_cases c : v = false ∨ by_ < 0 ∨ from_ < 0
  · refine ⟨⟨0, 0, [], []⟩, false, Ev.bind v1 ?_, Ev.bind v2 ?_, by rw [weight_zero]; omega⟩
    · simp only [if_pos c]; exact Ev.now _
    · simp only [if_pos c]; exact Ev.now _
  have hv : v = true := by
    cases v
    · exact absurd (Or.inl rfl) c
    · rfl
  have hb : 0 ≤ by_ := Int.not_lt.mp fun h => c (Or.inr (Or.inl h))
  have hf : 0 ≤ from_ := Int.not_lt.mp fun h => c (Or.inr (Or.inr h))
  obtain ⟨y, z, y1, z1, y2, z2, yz⟩ := shiftB (c := if from_ < 8 then from_ else 8) (from_ := from_) (p := if by_ < 8 then by_ else 8) (q := mn by_ 1048576) hf rfl (by split <;> omega) (by split <;> omega) (by unfold mn; split <;> split <;> omega) (by unfold mn; split <;> omega) x 0 (by omega) (by omega) (by simpa using vf hv)
  rw [Int.add_zero] at y1 yz
  have z1' := ev2_diag z1
  obtain ⟨vy, fy, a1, a2⟩ := writtenFx y (small_weight y (by omega))
  obtain ⟨vz, fz, b1, b2⟩ := writtenFx z (small_weight z (by omega))
  have hy : Ev (fun k => ((spec_l1Min.f by_ 8).bind fun m1 => (spec_l1Min.f from_ 8).bind fun m2 => spec_l2Shift.f k x.f0 x.f1 x.f2 x.f3 m1 m2)) (y.f0, y.f1, y.f2, y.f3) := by
    have e1 : spec_l1Min.f by_ 8 = some (if by_ < 8 then by_ else 8) := by unfold spec_l1Min.f; split <;> rfl
    have e2 : spec_l1Min.f from_ 8 = some (if from_ < 8 then from_ else 8) := by unfold spec_l1Min.f; split <;> rfl
    simp only [e1, e2, Option.bind_some]
    exact y1
  have hz : Ev (fun k => impl_shifted.f k x.f0 x.f1 x.f2 x.f3 (mn by_ 1048576) from_) (z.f0, z.f1, z.f2, z.f3) := by
    unfold impl_shifted.f
    exact z1'
  have fin : ∃ (u : S40) (b : Bool), Ev (fun k => (spec_IsWritten.f k y.f0 y.f1 y.f2 y.f3).bind fun b2 => if b2 = false then some (0, 0, [], [], false) else some (y.f0, y.f1, y.f2, y.f3, true)) (u.f0, u.f1, u.f2, u.f3, b) ∧ Ev (fun k => (impl_IsWritten.f k z.f0 z.f1 z.f2 z.f3).bind fun b2 => if b2 = false then some (0, 0, [], [], false) else some (z.f0, z.f1, z.f2, z.f3, true)) (u.f0, u.f1, u.f2, u.f3, b) ∧ weight u ≤ 1048576 := by
    rcases yz with rfl | ⟨f1, f2⟩
    · cases vy
      · exact ⟨⟨0, 0, [], []⟩, false, Ev.bind a1 (Ev.now _), Ev.bind a2 (Ev.now _), by rw [weight_zero]; omega⟩
      · exact ⟨y, true, Ev.bind a1 (Ev.now _), Ev.bind a2 (Ev.now _), by omega⟩
    · obtain rfl : vy = false := by
        cases vy
        · rfl
        · exact absurd (fy rfl) f1
      obtain rfl : vz = false := by
        cases vz
        · rfl
        · exact absurd (fz rfl) f2
      exact ⟨⟨0, 0, [], []⟩, false, Ev.bind a1 (Ev.now _), Ev.bind b2 (Ev.now _), by rw [weight_zero]; omega⟩
  obtain ⟨u, b, u1, u2, u3⟩ := fin
  refine ⟨u, b, Ev.bind v1 ?_, Ev.bind v2 ?_, u3⟩
  · simp only [if_neg c]
    exact Ev.bind hy u1
  · simp only [if_neg c]
    exact Ev.bind hz u2
theorem FnExactShiftTerm : laws_FnExactShiftTerm.Pure := by
  intro p0 p1 p2 p3 by_ from_ h0 h1 h2 h3 _ _
  refine evRounds ?_
  unfold laws_FnExactShiftTerm.f
  have hw : Wf36 ⟨p0, p1, p2, p3⟩ := .mk _ _ _ _ h0 h1 h2 h3.1 h3.2
  obtain ⟨s, es, s1, s2, s3⟩ := szTermN ⟨p0, p1, p2, p3⟩ hw 1048576 (by decide) (by decide)
  refine Ev.bind es ?_
  by_cases c : s < 0
  · simp only [if_pos c]; exact Ev.now _
  simp only [if_neg c]
  have hwx : weight (conv ⟨p0, p1, p2, p3⟩) ≤ 1048576 := by have := s3 (by omega); omega
  have tt := toTermE ⟨p0, p1, p2, p3⟩ (small_weight _ hwx)
  generalize conv ⟨p0, p1, p2, p3⟩ = x at hwx tt
  obtain ⟨z, b, z1, z2, z3⟩ := shiftTermBoth x hwx by_ from_
  have ex := eqTermE x (small_weight _ hwx)
  have ez := eqTermE z (small_weight _ z3)
  obtain ⟨b1, n2, n3, b2, b3, k1, _⟩ := markTermE x hwx 1 (by omega) (by omega) (marksE x hwx)
  obtain ⟨d1, m2, m3, d2, d3, j1, j2⟩ := markTermE z z3 1 (by omega) (by omega) (marksE z z3)
  refine Ev.bind tt ?_
  refine Ev.bind z1 ?_
  refine Ev.bind z2 ?_
  refine Ev.bind ez ?_
  refine Ev.bind ex ?_
  refine Ev.bind k1 ?_
  refine Ev.bind j1 ?_
  refine Ev.bind (j2 z.f0 z.f1) ?_
  simp only [Bool.true_and, decide_eq_true (show ¬ b1 < 0 by omega), decide_eq_true (show ¬ d1 < 0 by omega), decide_true]
  exact Ev.now _
end Go.Proofs.Ytipfkicndjddgaa.Pure
