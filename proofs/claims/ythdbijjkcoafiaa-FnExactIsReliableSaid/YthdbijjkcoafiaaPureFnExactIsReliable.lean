/- FnExactIsReliable: the pure statement. -/
import Derived.Test.YthdbijjkcoafiaaPf10
import Derived.Test.YthdbijjkcoafiaaB1
set_option linter.unusedSimpArgs false
set_option linter.unusedVariables false
namespace Go.Proofs.Ythdbijjkcoafiaa.Pure
open Go.RowKit Go.Proofs.Ythdbijjkcoafiaa.P Go.Proofs.YthdbijjkcoafiaaW.PrintWords Go.Proofs.YthdbijjkcoafiaaW.PrintLast
def rg1 (n : Int) (p t : List Int) (x y : Int) : Option Bool := if (A n p x y = 0 ∧ ¬ (x = 0 ∧ y = 0)) ∨ (A n t x y = 0 ∧ x ≠ 0 ∧ y ≠ 0) then some false else none
def rg0 (n : Int) (p t : List Int) (b : List Bool) (x : Int) : Option Bool := if x ≠ 0 ∧ L n b x 0 = true then some false else findO (rg1 n p t x) 0 n.toNat
def relV (n : Int) (p t : List Int) (b : List Bool) : Bool := (findO (rg0 n p t b) 0 n.toNat).getD true
section
variable {n : Int} {p t : List Int} {b : List Bool}
theorem specRel (h : OK n p t b) : Ev (fun k => spec_IsReliable.l0 k 0 n p t b) (relV n p t b) := by
  have hn : 0 ≤ n := by have := h.lo; omega
  have up : ∀ x, 0 ≤ x → x < n → wrap64 (x + 1) = x + 1 := fun x h0 h1 => w64 (by omega) (by have := h.hi; omega)
  refine loop0 (F := fun k x => spec_IsReliable.l0 k x n p t b) hn ?_ ?_
  · refine Ev.step (f := fun _ => some true) (fun k => ?_) (Ev.now _)
    simp only [spec_IsReliable.l0]; rw [if_neg (by omega)]
  · intro x x0 x1 r hr
    have hx : Rg n x := ⟨x0, x1⟩
    refine Ev.step (f := fun k => spec_IsReliable.j1 k x (decide (x ≠ 0) && L n b x 0) n p t b) (fun k => ?_) (Ev.step (f := fun k => if x ≠ 0 ∧ L n b x 0 = true then some false else spec_IsReliable.l1 k x 0 n p t b) (fun k => ?_) ?_)
    · simp only [spec_IsReliable.l0, le_eq h hx (Rg_zero h), Option.bind_some]
      rw [if_pos x1]
      by_cases c : x = 0
      · simp [c]
      · simp [c, show x > 0 by omega]
    · simp only [spec_IsReliable.j1]
      by_cases c : x = 0
      · simp [c]
      · cases L n b x 0 <;> simp [c]
    · unfold rg0
      by_cases c : x ≠ 0 ∧ L n b x 0 = true
      · simp only [if_pos c]; exact Ev.now _
      · simp only [if_neg c]
        refine loop0 (F := fun k y => spec_IsReliable.l1 k x y n p t b) hn ?_ ?_
        · refine Ev.step (fun k => ?_) hr
          simp only [spec_IsReliable.l1]; rw [if_neg (by omega), up x x0 x1]
        · intro y y0 y1 r hr
          have hy : Rg n y := ⟨y0, y1⟩
          have e3 : wrap64 (x + y) = x + y := w64 (by omega) (by have := h.hi; omega)
          have q1 : (x > 0) = ¬ (x = 0) := propext (by omega)
          have q2 : (y > 0) = ¬ (y = 0) := propext (by omega)
          have q3 : (x + y > 0) = ¬ (x = 0 ∧ y = 0) := propext (by omega)
          refine Ev.step (f := fun k => if (A n p x y = 0 ∧ ¬ (x = 0 ∧ y = 0)) ∨ (A n t x y = 0 ∧ x ≠ 0 ∧ y ≠ 0) then some false else spec_IsReliable.l1 k x (y + 1) n p t b) (fun k => ?_) ?_
          · simp only [spec_IsReliable.l1, add_eq h hx hy, mul_eq h hx hy, Option.bind_some, up y y0 y1, e3]
            rw [if_pos y1]
            (try simp only [q1, q2, q3])
            by_cases c1 : A n p x y = 0 <;> by_cases c2 : A n t x y = 0 <;> by_cases c3 : x = 0 <;> by_cases c4 : y = 0 <;> simp [c1, c2, c3, c4]
          · unfold rg1
            split
            · exact Ev.now _
            · exact hr
theorem implRel (h : OK n p t b) : Ev (fun k => impl_IsReliable.l0 k 0 n p t b) (relV n p t b) := by
  have hn : 0 ≤ n := by have := h.lo; omega
  have up : ∀ x, 0 ≤ x → x < n → wrap64 (x + 1) = x + 1 := fun x h0 h1 => w64 (by omega) (by have := h.hi; omega)
  refine loop0 (F := fun k x => impl_IsReliable.l0 k x n p t b) hn ?_ ?_
  · refine Ev.step (f := fun _ => some true) (fun k => ?_) (Ev.now _)
    simp only [impl_IsReliable.l0]; rw [if_neg (by omega)]
  · intro x x0 x1 r hr
    have hx : Rg n x := ⟨x0, x1⟩
    refine Ev.step (f := fun k => impl_IsReliable.j1 k x (decide (x ≠ 0) && L n b x 0) n p t b) (fun k => ?_) (Ev.step (f := fun k => if x ≠ 0 ∧ L n b x 0 = true then some false else impl_IsReliable.l1 k x 0 n p t b) (fun k => ?_) ?_)
    · simp only [impl_IsReliable.l0, below_is, le_eq h hx (Rg_zero h), Option.bind_some]
      rw [if_pos x1]
      by_cases c : x = 0
      · simp [c]
      · simp [c, show x > 0 by omega]
    · simp only [impl_IsReliable.j1]
      by_cases c : x = 0
      · simp [c]
      · cases L n b x 0 <;> simp [c]
    · unfold rg0
      by_cases c : x ≠ 0 ∧ L n b x 0 = true
      · simp only [if_pos c]; exact Ev.now _
      · simp only [if_neg c]
        refine loop0 (F := fun k y => impl_IsReliable.l1 k x y n p t b) hn ?_ ?_
        · refine Ev.step (fun k => ?_) hr
          simp only [impl_IsReliable.l1]; rw [if_neg (by omega), up x x0 x1]
        · intro y y0 y1 r hr
          have hy : Rg n y := ⟨y0, y1⟩
          have e3 : wrap64 (x + y) = x + y := w64 (by omega) (by have := h.hi; omega)
          have q1 : (x > 0) = ¬ (x = 0) := propext (by omega)
          have q2 : (y > 0) = ¬ (y = 0) := propext (by omega)
          have q3 : (x + y > 0) = ¬ (x = 0 ∧ y = 0) := propext (by omega)
          refine Ev.step (f := fun k => if (A n p x y = 0 ∧ ¬ (x = 0 ∧ y = 0)) ∨ (A n t x y = 0 ∧ x ≠ 0 ∧ y ≠ 0) then some false else impl_IsReliable.l1 k x (y + 1) n p t b) (fun k => ?_) ?_
          · simp only [impl_IsReliable.l1, plus_is, times_is, add_eq h hx hy, mul_eq h hx hy, Option.bind_some, up y y0 y1, e3]
            rw [if_pos y1]
            (try simp only [q1, q2, q3])
            by_cases c1 : A n p x y = 0 <;> by_cases c2 : A n t x y = 0 <;> by_cases c3 : x = 0 <;> by_cases c4 : y = 0 <;> simp [c1, c2, c3, c4]
          · unfold rg1
            split
            · exact Ev.now _
            · exact hr
end
theorem specV (n : Int) (p t : List Int) (b : List Bool) : Ev (fun k => spec_IsReliable.f k n p t b) (if sysV n p t b = true then relV n p t b else false) := by
  unfold spec_IsReliable.f
  refine Ev.bind (specSystem n p t b) ?_
  by_cases c : sysV n p t b = true
  · simp only [if_pos c]
    exact specRel (sysV_ok c)
  · simp only [if_neg c]
    exact Ev.now _
theorem implV (n : Int) (p t : List Int) (b : List Bool) : Ev (fun k => impl_IsReliable.f k n p t b) (if sysV n p t b = true then relV n p t b else false) := by
  unfold impl_IsReliable.f
  refine Ev.bind (implSystem n p t b) ?_
  by_cases c : sysV n p t b = true
  · simp only [if_pos c]
    exact implRel (sysV_ok c)
  · simp only [if_neg c]
    exact Ev.now _
theorem FnExactIsReliable : laws_FnExactIsReliable.Pure := by
  intro n p t b  hn hp ht hb 
  refine evRounds ?_
  unfold laws_FnExactIsReliable.f
  obtain ⟨s, hs, _, _, hl⟩ := szSystem n p t b 1048576 (by decide) (by decide) hp.2 ht.2 hb.2
  simp only [hs, Option.bind_some]
  by_cases c : s < 0
  · simp only [if_pos c]; exact Ev.now _
  · obtain ⟨l1, l2, l3⟩ := hl c
    have ts := toSystem n p t b l1 l2 l3
    have es := eqSystem n p t b l1 l2 l3
    simp only [if_neg c]
    refine Ev.bind ts ?_
    refine Ev.bind (specV n p t b) ?_
    refine Ev.bind ts ?_
    refine Ev.bind (implV n p t b) ?_
    simp only [bne_self_eq_false, Bool.false_eq_true, if_false, if_true, eq_self]
    refine Ev.bind ts ?_
    refine Ev.bind es ?_
    simp only [if_true]
    exact Ev.now _
end Go.Proofs.Ythdbijjkcoafiaa.Pure
