/- FnExactSubstituteTerm: the pure statement. -/
import Derived.Test.YtipfkicndjddgaaPf6
import Derived.Test.YtipfkicndjddgaaB24
set_option linter.unusedSimpArgs false
set_option linter.unusedVariables false
namespace Go.Proofs.Ytipfkicndjddgaa.Pure
open Go.RowKit Go.Proofs.Ytipfkicndjddgaa.P Go.Proofs.YtipfkicndjddgaaW.PrintWords Go.Proofs.YtipfkicndjddgaaW.PrintLast
theorem fits_eq {a n b : Int} (ha : 0 ≤ a) (ha2 : a ≤ 400) (hn : 0 ≤ n) (hn2 : n ≤ 400) (hb : 1 ≤ b) (hb2 : b ≤ 400) : wrap64 ((wrap64 (400 - (400 - a))) + (wrap64 (n * (wrap64 ((wrap64 (400 - (400 - b))) - 1))))) = a + n * (b - 1) := by
  have h1 : 0 ≤ n * (b - 1) := Int.mul_nonneg hn (by omega)
  have h2 : n * (b - 1) ≤ 400 * 399 := Int.mul_le_mul hn2 (by omega) (by omega) (by omega)
  rw [w64 (x := 400 - (400 - a)) (by omega) (by omega), w64 (x := 400 - (400 - b)) (by omega) (by omega), w64 (x := 400 - (400 - b) - 1) (by omega) (by omega), show 400 - (400 - b) - 1 = b - 1 by omega, w64 (x := n * (b - 1)) (by omega) (by omega), w64 (by omega) (by omega)]
  omega
theorem putTermBoth (x u : S40) (hx : weight x ≤ 1048576) (hu : weight u ≤ 1048576) (i0 : Int) : ∃ (z : S40) (b : Bool), Ev (fun k => spec_SubstituteTerm.f k x.f0 x.f1 x.f2 x.f3 i0 u.f0 u.f1 u.f2 u.f3) (z.f0, z.f1, z.f2, z.f3, b) ∧ Ev (fun k => impl_SubstituteTerm.f k x.f0 x.f1 x.f2 x.f3 i0 u.f0 u.f1 u.f2 u.f3) (z.f0, z.f1, z.f2, z.f3, b) ∧ weight z ≤ 1048576 := by
  obtain ⟨v, vf, v1, v2, v3⟩ := writtenFx2 x (small_weight x hx)
  obtain ⟨t, tf, t1, t2, t3⟩ := writtenFx2 u (small_weight u hu)
  unfold spec_SubstituteTerm.f impl_SubstituteTerm.f
  have w0 : weight ⟨0, 0, [], []⟩ ≤ 1048576 := by rw [weight_zero]; omega
  by_cases c : v = false ∨ t = false ∨ i0 < 0
  · refine ⟨⟨0, 0, [], []⟩, false, Ev.bind v1 (Ev.bind t1 ?_), Ev.bind v2 (Ev.bind t2 ?_), w0⟩
    · simp only [if_pos c]; exact Ev.now _
    · simp only [if_pos c]; exact Ev.now _
  have hv : v = true := by
    cases v
    · exact absurd (Or.inl rfl) c
    · rfl
  have ht : t = true := by
    cases t
    · exact absurd (Or.inr (Or.inl rfl)) c
    · rfl
  have hi : 0 ≤ i0 := Int.not_lt.mp fun h => c (Or.inr (Or.inr h))
  obtain ⟨y, n, y1, z1, n1, yn, nn, ys⟩ := putB (i0 := i0) (i := if i0 < 8 then i0 else 8) hi rfl (tf ht) hu x 0 (Int.le_refl 0) (by omega) (by simpa using vf hv)
  rw [Int.add_zero] at n1
  have x4 := v3 hv
  have u4 := t3 ht
  have u1 : 1 ≤ nodes u := by rw [nodes_eq]; omega
  obtain ⟨vy, fy, a1, a2, a3⟩ := writtenFx2 y ys
  have lx := specLeft x (small_weight x hx) 400 (by decide) (by decide)
  have lu := specLeft u (small_weight u hu) 400 (by decide) (by decide)
  have ex : leftV 400 (nodes x) = 400 - nodes x := by unfold leftV; rw [if_pos (by omega)]
  have eu : leftV 400 (nodes u) = 400 - nodes u := by unfold leftV; rw [if_pos (by omega)]
  rw [ex] at lx
  rw [eu] at lu
  have e1 : spec_l1Min.f i0 8 = some (if i0 < 8 then i0 else 8) := by unfold spec_l1Min.f; split <;> rfl
  have ft : Ev (fun k => spec_l2Fits.f k x.f0 x.f1 x.f2 x.f3 (if i0 < 8 then i0 else 8) u.f0 u.f1 u.f2 u.f3) (decide ((nodes y : Int) ≤ 400)) := by
    unfold spec_l2Fits.f
    refine Ev.bind lx ?_
    refine Ev.bind n1 ?_
    refine Ev.bind lu ?_
    have h1 : (0 : Int) ≤ nodes x := Int.natCast_nonneg _
    have h2 : (nodes x : Int) ≤ 400 := Int.ofNat_le.mpr x4
    have h3 : (0 : Int) ≤ n := Int.natCast_nonneg _
    have h4 : (n : Int) ≤ 400 := Int.ofNat_le.mpr (Nat.le_trans nn x4)
    have h5 : (1 : Int) ≤ nodes u := Int.ofNat_le.mpr u1
    have h6 : (nodes u : Int) ≤ 400 := Int.ofNat_le.mpr u4
    rw [fits_eq h1 h2 h3 h4 h5 h6, ← yn]
    exact Ev.now _
  have hz : Ev (fun k => impl_substituted.f k x.f0 x.f1 x.f2 x.f3 i0 u.f0 u.f1 u.f2 u.f3) (y.f0, y.f1, y.f2, y.f3) := by
    unfold impl_substituted.f
    exact ev2_diag z1
  have pi : ∀ {r : Int × Int × List Int × List S40 × Bool}, Ev (fun k => (impl_IsWritten.f k y.f0 y.f1 y.f2 y.f3).bind fun b2 => if b2 = false then some (0, 0, [], [], false) else some (y.f0, y.f1, y.f2, y.f3, true)) r → Ev (fun k => (impl_IsWritten.f k x.f0 x.f1 x.f2 x.f3).bind fun b => (impl_IsWritten.f k u.f0 u.f1 u.f2 u.f3).bind fun bu => if b = false ∨ bu = false ∨ i0 < 0 then some (0, 0, [], [], false) else (impl_substituted.f k x.f0 x.f1 x.f2 x.f3 i0 u.f0 u.f1 u.f2 u.f3).bind fun q => (impl_IsWritten.f k q.1 q.2.1 q.2.2.1 q.2.2.2).bind fun b2 => if b2 = false then some (0, 0, [], [], false) else some (q.1, q.2.1, q.2.2.1, q.2.2.2, true)) r := fun h => by
    refine Ev.bind v2 (Ev.bind t2 ?_)
    simp only [if_neg c]
    exact Ev.bind hz h
  by_cases cf : (nodes y : Int) ≤ 400
  · rw [decide_eq_true cf] at ft
    have ps : ∀ {r : Int × Int × List Int × List S40 × Bool}, Ev (fun k => (spec_IsWritten.f k y.f0 y.f1 y.f2 y.f3).bind fun b2 => if b2 = false then some (0, 0, [], [], false) else some (y.f0, y.f1, y.f2, y.f3, true)) r → Ev (fun k => (spec_IsWritten.f k x.f0 x.f1 x.f2 x.f3).bind fun b => (spec_IsWritten.f k u.f0 u.f1 u.f2 u.f3).bind fun bu => if b = false ∨ bu = false ∨ i0 < 0 then some (0, 0, [], [], false) else (spec_l1Min.f i0 8).bind fun m => (spec_l2Fits.f k x.f0 x.f1 x.f2 x.f3 m u.f0 u.f1 u.f2 u.f3).bind fun ft => if ft = false then some (0, 0, [], [], false) else (spec_l2Put.f k x.f0 x.f1 x.f2 x.f3 m u.f0 u.f1 u.f2 u.f3 0).bind fun q => (spec_IsWritten.f k q.1 q.2.1 q.2.2.1 q.2.2.2).bind fun b2 => if b2 = false then some (0, 0, [], [], false) else some (q.1, q.2.1, q.2.2.1, q.2.2.2, true)) r := fun h => by
      refine Ev.bind v1 (Ev.bind t1 ?_)
      simp only [if_neg c, e1, Option.bind_some]
      refine Ev.bind ft ?_
      simp only [Bool.true_eq_false, if_false]
      exact Ev.bind y1 h
    cases vy
    · exact ⟨⟨0, 0, [], []⟩, false, ps (Ev.bind a1 (Ev.now _)), pi (Ev.bind a2 (Ev.now _)), w0⟩
    · have := fine_weight y 8 (fy rfl)
      have := a3 rfl
      exact ⟨y, true, ps (Ev.bind a1 (Ev.now _)), pi (Ev.bind a2 (Ev.now _)), by clear yn; omega⟩
  · rw [decide_eq_false cf] at ft
    obtain rfl : vy = false := by
      cases vy
      · rfl
      · exact absurd (Int.ofNat_le.mpr (a3 rfl)) cf
    refine ⟨⟨0, 0, [], []⟩, false, Ev.bind v1 (Ev.bind t1 ?_), pi (Ev.bind a2 (Ev.now _)), w0⟩
    simp only [if_neg c, e1, Option.bind_some]
    refine Ev.bind ft ?_
    simp only [if_true]
    exact Ev.now _
theorem FnExactSubstituteTerm : laws_FnExactSubstituteTerm.Pure := by
  intro p0 p1 p2 p3 i0 u0 u1 u2 u3 h0 h1 h2 h3 _ g0 g1 g2 g3
  refine evRounds ?_
  unfold laws_FnExactSubstituteTerm.f
  have hw : Wf36 ⟨p0, p1, p2, p3⟩ := .mk _ _ _ _ h0 h1 h2 h3.1 h3.2
  have gw : Wf36 ⟨u0, u1, u2, u3⟩ := .mk _ _ _ _ g0 g1 g2 g3.1 g3.2
  obtain ⟨s, es, s1, s2, s3⟩ := szTermN ⟨p0, p1, p2, p3⟩ hw 1048576 (by decide) (by decide)
  refine Ev.bind es ?_
  by_cases c : s < 0
  · simp only [if_pos c]; exact Ev.now _
  simp only [if_neg c]
  obtain ⟨s', es', s1', s2', s3'⟩ := szTermN ⟨u0, u1, u2, u3⟩ gw s (by omega) (by omega)
  refine Ev.bind es' ?_
  by_cases c' : s' < 0
  · simp only [if_pos c']; exact Ev.now _
  simp only [if_neg c']
  have hwx : weight (conv ⟨p0, p1, p2, p3⟩) ≤ 1048576 := by have := s3 (by omega); omega
  have hwu : weight (conv ⟨u0, u1, u2, u3⟩) ≤ 1048576 := by have := s3' (by omega); omega
  have tt := toTermE ⟨p0, p1, p2, p3⟩ (small_weight _ hwx)
  have tu := toTermE ⟨u0, u1, u2, u3⟩ (small_weight _ hwu)
  generalize conv ⟨p0, p1, p2, p3⟩ = x at hwx tt
  generalize conv ⟨u0, u1, u2, u3⟩ = u at hwu tu
  obtain ⟨z, b, z1, z2, z3⟩ := putTermBoth x u hwx hwu i0
  have ex := eqTermE x (small_weight _ hwx)
  have eu := eqTermE u (small_weight _ hwu)
  have ez := eqTermE z (small_weight _ z3)
  obtain ⟨b1, n2, n3, b2, b3, k1, _⟩ := markTermE x hwx 1 (by omega) (by omega) (marksE x hwx)
  obtain ⟨q1, r2, r3, q2, q3, o1, _⟩ := markTermE u hwu b1 (by omega) (by omega) (marksE u hwu)
  obtain ⟨d1, m2, m3, d2, d3, j1, j2⟩ := markTermE z z3 1 (by omega) (by omega) (marksE z z3)
  refine Ev.bind tt ?_
  refine Ev.bind tu ?_
  refine Ev.bind z1 ?_
  refine Ev.bind z2 ?_
  refine Ev.bind ez ?_
  refine Ev.bind ex ?_
  refine Ev.bind eu ?_
  refine Ev.bind k1 ?_
  refine Ev.bind o1 ?_
  refine Ev.bind j1 ?_
  refine Ev.bind (j2 z.f0 z.f1) ?_
  simp only [Bool.true_and, decide_eq_true (show ¬ q1 < 0 by omega), decide_eq_true (show ¬ d1 < 0 by omega), decide_true]
  exact Ev.now _
end Go.Proofs.Ytipfkicndjddgaa.Pure
