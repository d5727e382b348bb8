/- FnExactSameTerms: the pure statement. -/
import Derived.Test.YtnokgkhkmnldeaaPf11
import Derived.Test.YtnokgkhkmnldeaaB10
set_option linter.unusedSimpArgs false
set_option linter.unusedVariables false
namespace Go.Proofs.Ytnokgkhkmnldeaa.Pure
open Go.RowKit Go.Proofs.Ytnokgkhkmnldeaa.P Go.Proofs.YtnokgkhkmnldeaaW.PrintWords Go.Proofs.YtnokgkhkmnldeaaW.PrintLast
def eg (l r : List Int) (i : Int) : Option Bool := if rd l i = rd r i then none else some false
def listV (l r : List Int) : Bool := if (l.length : Int) = (r.length : Int) then (findO (eg l r) 0 l.length).getD true else false
theorem specList (l r : List Int) (hl : l.length ≤ 1048576) : Ev (fun k => spec_l1Same.f k l r) (listV l r) := by
  unfold spec_l1Same.f listV
  by_cases c : (l.length : Int) = (r.length : Int)
  · rw [if_pos c]
    refine evCongr (fun k => if_pos c) ?_
    refine loop (F := fun k i => spec_l1Same.l0 k l r i) (n := (l.length : Int)) ?_ ?_ l.length 0 (by omega) (by omega)
    · refine Ev.step (f := fun _ => some true) (fun k => ?_) (Ev.now _)
      simp only [spec_l1Same.l0]; rw [if_neg (by omega)]
    · intro i h0 h1 b hb
      refine Ev.step (f := fun k => if rd l i = rd r i then spec_l1Same.l0 k l r (i + 1) else some false) (fun k => ?_) ?_
      · simp only [spec_l1Same.l0]; rw [if_pos h1, if_pos h0, if_pos (by omega), w64 (x := i + 1) (by omega) (by omega)]
      · unfold eg
        by_cases e : rd l i = rd r i
        · simpa [e] using hb
        · simpa [e] using Ev.now false
  · rw [if_neg c]
    exact evCongr (f := fun _ => some false) (fun k => if_neg c) (Ev.now _)
theorem implList (l r : List Int) (hl : l.length ≤ 1048576) : Ev (fun k => slices_Equal_int_int.f k l r) (listV l r) := by
  unfold slices_Equal_int_int.f listV
  by_cases c : (l.length : Int) = (r.length : Int)
  · rw [if_pos c]
    refine evCongr (fun k => if_pos c) ?_
    refine loop (F := fun k i => slices_Equal_int_int.l0 k l r (l.length : Int) i) (n := (l.length : Int)) ?_ ?_ l.length 0 (by omega) (by omega)
    · refine Ev.step (f := fun _ => some true) (fun k => ?_) (Ev.now _)
      simp only [slices_Equal_int_int.l0]; rw [if_neg (by omega)]
    · intro i h0 h1 b hb
      refine Ev.step (f := fun k => if rd l i = rd r i then slices_Equal_int_int.l0 k l r (l.length : Int) (i + 1) else some false) (fun k => ?_) ?_
      · simp only [slices_Equal_int_int.l0]; rw [if_pos h1, if_pos h0, if_pos h1, if_pos (by omega), w64 (x := i + 1) (by omega) (by omega)]
      · unfold eg
        by_cases e : rd l i = rd r i
        · simpa [e] using hb
        · simpa [e] using Ev.now false
  · rw [if_neg c]
    exact evCongr (f := fun _ => some false) (fun k => if_neg c) (Ev.now _)
theorem sameBoth (x : S48) (hs : Small x) : ∀ y : S48, ∃ v : Bool, Ev (fun k => spec_l2Equal.f k x.f0 x.f1 x.f2 x.f3 y.f0 y.f1 y.f2 y.f3) v ∧ Ev (fun k => impl_same.f k x.f0 x.f1 x.f2 x.f3 y.f0 y.f1 y.f2 y.f3) v := by
  revert hs
  refine indI (P := fun x => Small x → ∀ y : S48, ∃ v : Bool, Ev (fun k => spec_l2Equal.f k x.f0 x.f1 x.f2 x.f3 y.f0 y.f1 y.f2 y.f3) v ∧ Ev (fun k => impl_same.f k x.f0 x.f1 x.f2 x.f3 y.f0 y.f1 y.f2 y.f3) v) ?_ (SizeOf.sizeOf x + 1) x (by omega)
  clear x
  intro x ih hs y
  obtain ⟨s2, s3, sk⟩ := hs.out
  have no : Ev (fun k => spec_l2Equal.j0 k true x.f0 x.f1 x.f2 x.f3 y.f0 y.f1 y.f2 y.f3) false := Ev.step (f := fun _ => some false) (fun k => by simp only [spec_l2Equal.j0, if_true]) (Ev.now _)
  by_cases c0 : x.f0 = y.f0
  · by_cases c1 : x.f1 = y.f1
    · cases ct : listV x.f2 y.f2 with
      | false =>
        have e1 := specList x.f2 y.f2 s2
        have e2 := implList x.f2 y.f2 s2
        rw [ct] at e1 e2
        refine ⟨false, ?_, ?_⟩
        · refine Ev.step (fun k => by simp only [spec_l2Equal.f, if_pos c0, if_pos c1]; rfl) (Ev.bind e1 ?_)
          simpa using no
        · refine Ev.step (fun k => by simp only [impl_same.f, if_pos c0, if_pos c1]; rfl) (Ev.bind e2 ?_)
          simpa using Ev.now false
      | true =>
        have e1 := specList x.f2 y.f2 s2
        have e2 := implList x.f2 y.f2 s2
        rw [ct] at e1 e2
        by_cases cl : (x.f3.length : Int) = (y.f3.length : Int)
        · have lp : ∀ (m i : Nat), i + m = x.f3.length → ∃ v : Bool, Ev (fun k => spec_l2Equal.l0 k (i : Int) x.f0 x.f1 x.f2 x.f3 y.f0 y.f1 y.f2 y.f3) v ∧ Ev2 (fun k j => impl_Term.l0 k y.f3 (fun z0_ z1_ z2_ z3_ z4_ z5_ z6_ z7_ => impl_same.f j z0_ z1_ z2_ z3_ z4_ z5_ z6_ z7_) x.f3 (x.f3.length : Int) (i : Int)) v := by
            intro m
            induction m with
            | zero =>
              intro i hi
              refine ⟨true, Ev.step (f := fun _ => some true) (fun k => ?_) (Ev.now _), ev2_step (h := fun _ _ => some true) (fun k j => ?_) (ev2_now _)⟩
              · simp only [spec_l2Equal.l0]; rw [if_neg (by omega)]
              · simp only [impl_Term.l0]; rw [if_neg (by omega)]
            | succ m ihm =>
              intro i hi
              have hmem : x.f3[i] ∈ x.f3 := List.getElem_mem _
              have hy : i < y.f3.length := by omega
              obtain ⟨v, h1, h2⟩ := ih _ hmem (sk _ hmem) (y.f3[i])
              obtain ⟨u, u1, u2⟩ := ihm (i + 1) (by omega)
              have i1 : (i : Int) < (x.f3.length : Int) := by omega
              have i2 : (i : Int) < (y.f3.length : Int) := by omega
              have i0 : 0 ≤ (i : Int) := by omega
              have up : wrap64 ((i : Int) + 1) = ((i + 1 : Nat) : Int) := by rw [w64 (by omega) (by omega)]; omega
              refine ⟨v && u, ?_, ?_⟩
              · refine Ev.step (fun k => by simp only [spec_l2Equal.l0, rdI_get (show i < x.f3.length by omega), rdI_get hy, if_pos i1, if_pos i2, if_pos i0, up]; rfl) (Ev.bind h1 ?_)
                cases v
                · simpa using Ev.now false
                · simpa using u1
              · refine ev2_step (fun k j => by simp only [impl_Term.l0, rdI_get (show i < x.f3.length by omega), rdI_get hy, if_pos i1, if_pos i2, if_pos i0, up]; rfl) (ev2_bind (ev2_right h2) ?_)
                cases v
                · simpa using ev2_now false
                · simpa using u2
          obtain ⟨v, v1, v2⟩ := lp x.f3.length 0 (by omega)
          have ebne : ((x.f3.length : Int) != (y.f3.length : Int)) = false := bne_eq_false_iff_eq.mpr cl
          refine ⟨v, ?_, ?_⟩
          · refine Ev.step (fun k => by simp only [spec_l2Equal.f, if_pos c0, if_pos c1]; rfl) (Ev.bind e1 ?_)
            simp only [if_true, ebne]
            exact Ev.step (fun k => by simp only [spec_l2Equal.j0, Bool.false_eq_true, if_false]; rfl) v1
          · refine Ev.step (fun k => by simp only [impl_same.f, if_pos c0, if_pos c1]; rfl) (Ev.bind e2 ?_)
            simp only [if_true, impl_Term.f, if_pos cl, Option.bind_fun_some]
            exact ev2_diag v2
        · have ebne : ((x.f3.length : Int) != (y.f3.length : Int)) = true := bne_iff_ne.mpr cl
          refine ⟨false, ?_, ?_⟩
          · refine Ev.step (fun k => by simp only [spec_l2Equal.f, if_pos c0, if_pos c1]; rfl) (Ev.bind e1 ?_)
            simp only [if_true, ebne]
            exact no
          · refine Ev.step (fun k => by simp only [impl_same.f, if_pos c0, if_pos c1]; rfl) (Ev.bind e2 ?_)
            simp only [if_true, impl_Term.f, if_neg cl, Option.bind_fun_some]
            exact Ev.now _
    · exact ⟨false, Ev.step (fun k => by simp only [spec_l2Equal.f, if_pos c0, if_neg c1]) no, Ev.step (f := fun _ => some false) (fun k => by simp only [impl_same.f, if_pos c0, if_neg c1]) (Ev.now _)⟩
  · exact ⟨false, Ev.step (fun k => by simp only [spec_l2Equal.f, if_neg c0]) no, Ev.step (f := fun _ => some false) (fun k => by simp only [impl_same.f, if_neg c0]) (Ev.now _)⟩
theorem implWrittenV (x : S48) {v : Bool} (hv2 : Ev (fun k => impl_writtenSize.f k x.f0 x.f1 x.f2 x.f3) (if v = true then (nodes x : Int) else 401)) (hv3 : v = true → nodes x ≤ 400) : Ev (fun k => impl_IsWritten.f k x.f0 x.f1 x.f2 x.f3) v := by
  unfold impl_IsWritten.f
  refine Ev.bind hv2 ?_
  cases v
  · simpa using Ev.now false
  · simp only [if_true, decide_eq_true (show (nodes x : Int) ≤ 400 by have := hv3 rfl; omega)]
    exact Ev.now _
theorem FnExactSameTerms : laws_FnExactSameTerms.Pure := by
  intro p0 p1 p2 p3 q0 q1 q2 q3 h0 h1 h2 h3 g0 g1 g2 g3
  refine evRounds ?_
  unfold laws_FnExactSameTerms.f
  have hw : Wf43 ⟨p0, p1, p2, p3⟩ := .mk _ _ _ _ h0 h1 h2 h3.1 h3.2
  have gw : Wf43 ⟨q0, q1, q2, q3⟩ := .mk _ _ _ _ g0 g1 g2 g3.1 g3.2
  obtain ⟨s, es, s1, s2, s3⟩ := szTermE ⟨p0, p1, p2, p3⟩ hw 1048576 (by decide) (by decide)
  refine Ev.bind es ?_
  by_cases c : s < 0
  · simp only [if_pos c]; exact Ev.now _
  · simp only [if_neg c]
    obtain ⟨s', es', s1', s2', s3'⟩ := szTermE ⟨q0, q1, q2, q3⟩ gw s (by omega) (by omega)
    refine Ev.bind es' ?_
    by_cases c' : s' < 0
    · simp only [if_pos c']; exact Ev.now _
    · simp only [if_neg c']
      have hs := s3 (by omega)
      have tt := toTermE ⟨p0, p1, p2, p3⟩ hs
      have te := eqTermE _ hs
      generalize conv ⟨p0, p1, p2, p3⟩ = x at hs tt te
      have hs' := s3' (by omega)
      have tt' := toTermE ⟨q0, q1, q2, q3⟩ hs'
      have te' := eqTermE _ hs'
      generalize conv ⟨q0, q1, q2, q3⟩ = y at hs' tt' te'
      obtain ⟨v, hv0, hv1, hv2, hv3⟩ := writtenBoth x hs
      obtain ⟨u, hu0, hu1, hu2, hu3⟩ := writtenBoth y hs'
      obtain ⟨b, hb1, hb2⟩ := sameBoth x hs y
      have hv4 := implWrittenV x hv2 hv3
      have hu4 := implWrittenV y hu2 hu3
      have hsp : Ev (fun k => spec_SameTerms.f k x.f0 x.f1 x.f2 x.f3 y.f0 y.f1 y.f2 y.f3) (v && (u && b)) := by
        unfold spec_SameTerms.f
        refine Ev.bind hv1 ?_
        cases v
        · simpa using Ev.now false
        · simp only [if_true, Bool.true_and]
          refine Ev.bind hu1 ?_
          cases u
          · simpa using Ev.now false
          · simp only [if_true, Bool.true_and, Option.bind_fun_some]
            exact hb1
      have hi : Ev (fun k => impl_SameTerms.f k x.f0 x.f1 x.f2 x.f3 y.f0 y.f1 y.f2 y.f3) (v && (u && b)) := by
        unfold impl_SameTerms.f
        refine Ev.bind hv4 ?_
        cases v
        · simpa using Ev.now false
        · simp only [if_true, Bool.true_and]
          refine Ev.bind hu4 ?_
          cases u
          · simpa using Ev.now false
          · simp only [if_true, Bool.true_and, Option.bind_fun_some]
            exact hb2
      refine Ev.bind tt ?_
      refine Ev.bind tt' ?_
      refine Ev.bind hsp ?_
      refine Ev.bind tt ?_
      refine Ev.bind tt' ?_
      refine Ev.bind hi ?_
      simp only [bne_self_eq_false, Bool.false_eq_true, if_false]
      refine Ev.bind tt ?_
      refine Ev.bind te ?_
      simp only [if_true]
      refine Ev.bind tt' ?_
      refine Ev.bind te' ?_
      simp only [if_true]
      exact Ev.now _
end Go.Proofs.Ytnokgkhkmnldeaa.Pure
