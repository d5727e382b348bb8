/- FnExactIsData: the pure statement. -/
import Derived.Test.YtnokgkhkmnldeaaPf6
import Derived.Test.YtnokgkhkmnldeaaB5
import Derived.Test.YtnokgkhkmnldeaaB3
set_option linter.unusedSimpArgs false
set_option linter.unusedVariables false
namespace Go.Proofs.Ytnokgkhkmnldeaa.Pure
open Go.RowKit Go.Proofs.Ytnokgkhkmnldeaa.P Go.Proofs.YtnokgkhkmnldeaaW.PrintWords Go.Proofs.YtnokgkhkmnldeaaW.PrintLast
def arrow (c : Int) : Bool := inV c 3 18 || (c == 35)
theorem arrow_shape (c : Int) : arrow c = ((shapeV c).1 == 3) := by
  unfold arrow shapeV inV
  by_cases c1 : 3 ≤ c ∧ c ≤ 18
  · rw [decide_eq_true c1.1, decide_eq_true c1.2, if_neg (by omega), if_pos c1]; rfl
  · have : (decide (c ≥ 3) && decide (c ≤ 18)) = false := by
      rw [Bool.eq_false_iff]; intro hh; rw [Bool.and_eq_true, decide_eq_true_eq, decide_eq_true_eq] at hh; exact c1 hh
    rw [this, Bool.false_or]
    by_cases c2 : c = 35
    · subst c2; decide
    · rw [beq_eq_false_iff_ne.mpr c2]
      symm
      rw [beq_eq_false_iff_ne]
      repeat' split
      all_goals first | (simp; done) | (simp; omega)
theorem specData (xs : List Int) (hl : xs.length ≤ 1048576) : Ev (fun k => spec_l2Data.f k xs) (!xs.any arrow) := by
  unfold spec_l2Data.f
  have key : ∀ (m i : Nat), i + m = xs.length → Ev (fun k => spec_l2Data.l0 k xs (i : Int)) (!(xs.drop i).any arrow) := by
    intro m
    induction m with
    | zero =>
      intro i h
      rw [List.drop_eq_nil_of_le (by omega)]
      refine Ev.step (f := fun _ => some true) (fun k => ?_) (Ev.now _)
      simp only [spec_l2Data.l0]; rw [if_neg (by omega)]
    | succ m ih =>
      intro i h
      have ih' := ih (i + 1) (by omega)
      rw [List.drop_eq_getElem_cons (by omega), List.any_cons]
      refine Ev.step (f := fun k => if arrow xs[i] = true then some false else spec_l2Data.l0 k xs ((i + 1 : Nat) : Int)) (fun k => ?_) ?_
      · simp only [spec_l2Data.l0, spec_l2Arrow.f, in_eq, rd_get (show i < xs.length by omega), Option.bind_some]
        rw [if_pos (by omega), if_pos (by omega), w64 (x := (i : Int) + 1) (by omega) (by omega)]
        unfold arrow
        cases inV xs[i] 3 18 <;> simp
      · cases arrow xs[i]
        · simpa using ih'
        · simpa using Ev.now false
  exact key xs.length 0 (by omega)
theorem specV (n : Int) (p t : List Int) (b : List Bool) (xs : List Int) (hl : xs.length ≤ 1048576) : Ev (fun k => spec_IsData.f k n p t b xs) (sysV n p t b && typeV n xs && !xs.any arrow) := by
  unfold spec_IsData.f
  refine Ev.bind (specType n p t b xs hl) ?_
  cases sysV n p t b && typeV n xs
  · simpa using Ev.now false
  · simp only [if_true, Bool.true_and, Option.bind_fun_some]
    exact specData xs hl
theorem implV (n : Int) (p t : List Int) (b : List Bool) (xs : List Int) (hl : xs.length ≤ 1048576) : Ev (fun k => impl_IsData.f k n p t b xs) (sysV n p t b && typeV n xs && !xs.any arrow) := by
  unfold impl_IsData.f impl_isDataOf.f
  refine Ev.bind (a := typeV n xs && !xs.any arrow) (Ev.bind (implType n p t b xs hl) ?_) ?_
  · cases typeV n xs
    · simpa using Ev.now false
    · simp only [if_true, Bool.true_and]
      refine Ev.bind (containsV xs hl _ arrow (fun x => by unfold impl_isDataOf_1.f; rw [shape_eq, arrow_shape]; rfl)) ?_
      exact Ev.now _
  · rw [Bool.and_assoc]
    cases (typeV n xs && !xs.any arrow)
    · simpa using Ev.now false
    · simp only [if_true, Bool.and_true, Option.bind_fun_some]
      exact implSystem n p t b
theorem FnExactIsData : laws_FnExactIsData.Pure := by
  intro n p t b l  hn hp ht hb hl1 
  refine evRounds ?_
  unfold laws_FnExactIsData.f
  by_cases c0 : (l.length : Int) > 1048576
  · simp only [if_pos c0]; exact Ev.now _
  · have l4 : l.length ≤ 1048576 := by omega
    simp only [if_neg c0]
    obtain ⟨s, hs, _, _, hl⟩ := szSystem n p t b 1048576 (by decide) (by decide) hp.2 ht.2 hb.2
    simp only [hs, Option.bind_some]
    by_cases c : s < 0
    · simp only [if_pos c]; exact Ev.now _
    · obtain ⟨l1, l2, l3⟩ := hl c
      have ts := toSystem n p t b l1 l2 l3
      have es := eqSystem n p t b l1 l2 l3
      have tl := toIntS l l4
      have el := eqIntS l l4
      simp only [if_neg c]
      refine Ev.bind ts ?_
      refine Ev.bind tl ?_
      refine Ev.bind (specV n p t b l l4) ?_
      refine Ev.bind ts ?_
      refine Ev.bind tl ?_
      refine Ev.bind (implV n p t b l l4) ?_
      simp only [bne_self_eq_false, Bool.false_eq_true, if_false, if_true, eq_self]
      refine Ev.bind ts ?_
      refine Ev.bind es ?_
      simp only [if_true]
      refine Ev.bind tl ?_
      refine Ev.bind el ?_
      simp only [if_true]
      exact Ev.now _
end Go.Proofs.Ytnokgkhkmnldeaa.Pure
