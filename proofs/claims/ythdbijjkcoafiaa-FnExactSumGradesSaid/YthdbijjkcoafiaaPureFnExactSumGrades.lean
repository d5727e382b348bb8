/- FnExactSumGrades: the pure statement. -/
import Derived.Test.YthdbijjkcoafiaaPf11
import Derived.Test.YthdbijjkcoafiaaB3
set_option linter.unusedSimpArgs false
set_option linter.unusedVariables false
namespace Go.Proofs.Ythdbijjkcoafiaa.Pure
open Go.RowKit Go.Proofs.Ythdbijjkcoafiaa.P Go.Proofs.YthdbijjkcoafiaaW.PrintWords Go.Proofs.YthdbijjkcoafiaaW.PrintLast
def bad (n : Int) (x : Int) : Bool := !inV x 0 (wrap64 (n - 1))
def sumV (n : Int) (p : List Int) (l : List Int) (acc : Int) : Int := if l.any (bad n) = true then -1 else l.foldl (A n p) acc
theorem sum_ok {n : Int} {p : List Int} {x acc : Int} {l : List Int} (c : inV x 0 (wrap64 (n - 1)) = true) : sumV n p (x :: l) acc = sumV n p l (A n p acc x) := by
  unfold sumV bad
  simp [c]
theorem sum_bad {n : Int} {p : List Int} {x acc : Int} {l : List Int} (c : ¬ inV x 0 (wrap64 (n - 1)) = true) : sumV n p (x :: l) acc = -1 := by
  unfold sumV bad
  simp [c]
theorem specSum {n : Int} {p t : List Int} {b : List Bool} (h : OK n p t b) (xs : List Int) (hl : xs.length ≤ 1048576) : ∀ (m i : Nat) (acc : Int), i + m = xs.length → Rg n acc → Ev (fun k => spec_SumGrades.l0 k xs acc (i : Int) n p t b) (sumV n p (xs.drop i) acc)
  | 0, i, acc, hi, ha => by
    rw [List.drop_eq_nil_of_le (by omega)]
    refine Ev.step (f := fun _ => some acc) (fun k => ?_) (Ev.now _)
    simp only [spec_SumGrades.l0]; rw [if_neg (by omega)]
  | m + 1, i, acc, hi, ha => by
    rw [List.drop_eq_getElem_cons (by omega)]
    by_cases c : inV xs[i] 0 (wrap64 (n - 1)) = true
    · have hx := (inV_Rg h).mp c
      have ih := specSum h xs hl m (i + 1) (A n p acc xs[i]) (by omega) (A_in h ha hx)
      rw [sum_ok c]
      refine Ev.step (fun k => ?_) ih
      simp only [spec_SumGrades.l0, rd_get (show i < xs.length by omega), in_eq, c, add_eq h ha hx, Option.bind_some, if_true]
      rw [if_pos (by omega), if_pos (by omega), w64 (by omega) (by omega)]; rfl
    · rw [sum_bad c]
      refine Ev.step (f := fun _ => some (-1)) (fun k => ?_) (Ev.now _)
      simp only [spec_SumGrades.l0, rd_get (show i < xs.length by omega), in_eq, c, Option.bind_some]
      rw [if_pos (by omega), if_pos (by omega)]; rfl
theorem implSum {n : Int} {p t : List Int} {b : List Bool} (h : OK n p t b) (xs : List Int) (hl : xs.length ≤ 1048576) (hb : xs.any (bad n) = false) : ∀ (m i : Nat) (acc : Int), i + m = xs.length → Rg n acc → Ev (fun k => impl_SumGrades.l0 k acc xs (xs.length : Int) (i : Int) n p t b) ((xs.drop i).foldl (A n p) acc)
  | 0, i, acc, hi, ha => by
    rw [List.drop_eq_nil_of_le (by omega)]
    refine Ev.step (f := fun _ => some acc) (fun k => ?_) (Ev.now _)
    simp only [impl_SumGrades.l0]; rw [if_neg (by omega)]
  | m + 1, i, acc, hi, ha => by
    rw [List.drop_eq_getElem_cons (by omega)]
    have c : inV xs[i] 0 (wrap64 (n - 1)) = true := by
      have := (List.any_eq_false.mp hb) xs[i] (List.getElem_mem _)
      unfold bad at this
      simpa using this
    have hx := (inV_Rg h).mp c
    have ih := implSum h xs hl hb m (i + 1) (A n p acc xs[i]) (by omega) (A_in h ha hx)
    refine Ev.step (fun k => ?_) ih
    simp only [impl_SumGrades.l0, plus_is, rd_get (show i < xs.length by omega), add_eq h ha hx, Option.bind_some]
    rw [if_pos (by omega), if_pos (by omega), if_pos (by omega), w64 (by omega) (by omega)]; rfl
theorem specV (n : Int) (p t : List Int) (b : List Bool) (xs : List Int) (hl : xs.length ≤ 1048576) : Ev (fun k => spec_SumGrades.f k n p t b xs) (if sysV n p t b = true then sumV n p xs 0 else -1) := by
  unfold spec_SumGrades.f
  refine Ev.bind (specSystem n p t b) ?_
  by_cases c : sysV n p t b = true
  · simp only [if_pos c]
    exact specSum (sysV_ok c) xs hl xs.length 0 0 (by omega) (Rg_zero (sysV_ok c))
  · simp only [if_neg c]
    exact Ev.now _
theorem implV (n : Int) (p t : List Int) (b : List Bool) (xs : List Int) (hl : xs.length ≤ 1048576) : Ev (fun k => impl_SumGrades.f k n p t b xs) (if sysV n p t b = true then sumV n p xs 0 else -1) := by
  unfold impl_SumGrades.f
  refine Ev.bind (implSystem n p t b) ?_
  by_cases c : sysV n p t b = true
  · simp only [if_pos c]
    refine Ev.bind (containsV xs hl _ (bad n) (fun x => by unfold impl_SumGrades_1.f; rw [has_eq]; rfl)) ?_
    unfold sumV
    by_cases c1 : xs.any (bad n) = true
    · rw [if_pos c1]
      refine Ev.step (f := fun _ => some (-1)) (fun k => ?_) (Ev.now _)
      simp only [impl_SumGrades.j0, c1, if_true]
    · rw [if_neg c1]
      have c2 : xs.any (bad n) = false := by simpa using c1
      refine Ev.step (fun k => ?_) (implSum (sysV_ok c) xs hl c2 xs.length 0 0 (by omega) (Rg_zero (sysV_ok c)))
      simp only [impl_SumGrades.j0, c2, Bool.false_eq_true, if_false]; rfl
  · simp only [if_neg c]
    refine Ev.step (f := fun _ => some (-1)) (fun k => ?_) (Ev.now _)
    simp only [impl_SumGrades.j0, if_true]
theorem FnExactSumGrades : laws_FnExactSumGrades.Pure := by
  intro n p t b l  hn hp ht hb hl1 
  refine evRounds ?_
  unfold laws_FnExactSumGrades.f
  by_cases c0 : (l.length : Int) > 1048576
  · simp only [if_pos c0]; exact Ev.now _
  · have l4 : l.length ≤ 1048576 := by omega
    simp only [if_neg c0]
    obtain ⟨s, hs, _, _, hl⟩ := szSystem n p t b 1048576 (by decide) (by decide) hp.2 ht.2 hb.2
    simp only [hs, Option.bind_some]
    by_cases c : s < 0
    · simp only [if_pos c]; exact Ev.now _
    · obtain ⟨l1, l2, l3⟩ := hl c
      have ts := toSystem n p t b l1 l2 l3
      have es := eqSystem n p t b l1 l2 l3
      have tl := toIntS l l4
      have el := eqIntS l l4
      simp only [if_neg c]
      refine Ev.bind ts ?_
      refine Ev.bind tl ?_
      refine Ev.bind (specV n p t b l l4) ?_
      refine Ev.bind ts ?_
      refine Ev.bind tl ?_
      refine Ev.bind (implV n p t b l l4) ?_
      simp only [bne_self_eq_false, Bool.false_eq_true, if_false, if_true, eq_self]
      refine Ev.bind ts ?_
      refine Ev.bind es ?_
      simp only [if_true]
      refine Ev.bind tl ?_
      refine Ev.bind el ?_
      simp only [if_true]
      exact Ev.now _
end Go.Proofs.Ythdbijjkcoafiaa.Pure
