/- FnExactLeastGrade: the pure statement. -/
import Derived.Test.YthdbijjkcoafiaaPf9
import Derived.Test.YthdbijjkcoafiaaB1
set_option linter.unusedSimpArgs false
set_option linter.unusedVariables false
namespace Go.Proofs.Ythdbijjkcoafiaa.Pure
open Go.RowKit Go.Proofs.Ythdbijjkcoafiaa.P Go.Proofs.YthdbijjkcoafiaaW.PrintWords Go.Proofs.YthdbijjkcoafiaaW.PrintLast
def lAll (n : Int) (b : List Bool) (z : Int) : Int → Nat → Bool
  | _, 0 => true
  | w, m + 1 => L n b z w && lAll n b z (w + 1) m
def lg (n : Int) (b : List Bool) (z : Int) : Option Int := if lAll n b z 0 n.toNat = true then some z else none
def leastV (n : Int) (b : List Bool) : Int := (findO (lg n b) 0 n.toNat).getD (-1)
section
variable {n : Int} {p t : List Int} {b : List Bool}
theorem specLeast_in (h : OK n p t b) {z : Int} (hz : Rg n z) {r : Int} (hr : Ev (fun k => spec_LeastGrade.l0 k (z + 1) n p t b) r) :
    ∀ (m : Nat) (w : Int) (ok : Bool), 0 ≤ w → w + m = n → Ev (fun k => spec_LeastGrade.l1 k z ok w n p t b) (if (ok && lAll n b z w m) = true then z else r)
  | 0, w, ok, h0, hw => by
    refine Ev.step (f := fun k => if ok = true then some z else spec_LeastGrade.l0 k (z + 1) n p t b) (fun k => ?_) ?_
    · simp only [spec_LeastGrade.l1]; rw [if_neg (by omega), w64 (by have := hz.1; omega) (by have := hz.2; have := h.hi; omega)]
    · cases ok
      · simpa [lAll] using hr
      · simpa [lAll] using Ev.now z
  | m + 1, w, ok, h0, hw => by
    have hw' : Rg n w := ⟨h0, by omega⟩
    have e1 : wrap64 (w + 1) = w + 1 := w64 (by omega) (by have := h.hi; omega)
    have ih := specLeast_in h hz hr m (w + 1)
    cases ok
    · refine Ev.step (f := fun k => spec_LeastGrade.l1 k z false (w + 1) n p t b) (fun k => ?_) ?_
      · simp only [spec_LeastGrade.l1]; rw [if_pos (by omega), if_neg (by decide), e1]
      · simpa using ih false (by omega) (by omega)
    · refine Ev.step (f := fun k => spec_LeastGrade.l1 k z (L n b z w) (w + 1) n p t b) (fun k => ?_) ?_
      · simp only [spec_LeastGrade.l1, le_eq h hz hw', Option.bind_some, e1, if_true]
        rw [if_pos (by omega)]
      · have := ih (L n b z w) (by omega) (by omega)
        simpa [lAll] using this
theorem specLeast (h : OK n p t b) : Ev (fun k => spec_LeastGrade.l0 k 0 n p t b) (leastV n b) := by
  refine loop0 (F := fun k z => spec_LeastGrade.l0 k z n p t b) (by have := h.lo; omega) ?_ ?_
  · refine Ev.step (f := fun _ => some (-1)) (fun k => ?_) (Ev.now _)
    simp only [spec_LeastGrade.l0]; rw [if_neg (by omega)]
  · intro z h0 h1 r hr
    have hz : Rg n z := ⟨h0, h1⟩
    have := specLeast_in h hz hr n.toNat 0 true (by omega) (by omega)
    refine Ev.step (f := fun k => spec_LeastGrade.l1 k z true 0 n p t b) (fun k => ?_) ?_
    · simp only [spec_LeastGrade.l0]; rw [if_pos h1]
    · unfold lg
      revert this
      cases lAll n b z 0 n.toNat <;> simp
theorem implLeast_in (h : OK n p t b) {z : Int} (hz : Rg n z) {r : Int} (hr : Ev (fun k => impl_LeastGrade.l0 k (z + 1) n p t b) r) :
    ∀ (m : Nat) (w : Int) (ok : Bool), 0 ≤ w → w + m = n → Ev (fun k => impl_LeastGrade.l1 k z ok w n p t b) (if (ok && lAll n b z w m) = true then z else r)
  | 0, w, ok, h0, hw => by
    refine Ev.step (f := fun k => if ok = true then some z else impl_LeastGrade.l0 k (z + 1) n p t b) (fun k => ?_) ?_
    · simp only [impl_LeastGrade.l1]; rw [if_neg (by omega), w64 (by have := hz.1; omega) (by have := hz.2; have := h.hi; omega)]
    · cases ok
      · simpa [lAll] using hr
      · simpa [lAll] using Ev.now z
  | m + 1, w, ok, h0, hw => by
    have hw' : Rg n w := ⟨h0, by omega⟩
    have e1 : wrap64 (w + 1) = w + 1 := w64 (by omega) (by have := h.hi; omega)
    have ih := implLeast_in h hz hr m (w + 1)
    cases ok
    · refine Ev.step (f := fun k => impl_LeastGrade.l1 k z false (w + 1) n p t b) (fun k => ?_) ?_
      · simp only [impl_LeastGrade.l1]; rw [if_pos (by omega), if_neg (by decide), e1]
      · simpa using ih false (by omega) (by omega)
    · refine Ev.step (f := fun k => impl_LeastGrade.l1 k z (L n b z w) (w + 1) n p t b) (fun k => ?_) ?_
      · simp only [impl_LeastGrade.l1, below_is, le_eq h hz hw', Option.bind_some, e1, if_true]
        rw [if_pos (by omega)]
      · have := ih (L n b z w) (by omega) (by omega)
        simpa [lAll] using this
theorem implLeast (h : OK n p t b) : Ev (fun k => impl_LeastGrade.l0 k 0 n p t b) (leastV n b) := by
  refine loop0 (F := fun k z => impl_LeastGrade.l0 k z n p t b) (by have := h.lo; omega) ?_ ?_
  · refine Ev.step (f := fun _ => some (-1)) (fun k => ?_) (Ev.now _)
    simp only [impl_LeastGrade.l0]; rw [if_neg (by omega)]
  · intro z h0 h1 r hr
    have hz : Rg n z := ⟨h0, h1⟩
    have := implLeast_in h hz hr n.toNat 0 true (by omega) (by omega)
    refine Ev.step (f := fun k => impl_LeastGrade.l1 k z true 0 n p t b) (fun k => ?_) ?_
    · simp only [impl_LeastGrade.l0]; rw [if_pos h1]
    · unfold lg
      revert this
      cases lAll n b z 0 n.toNat <;> simp
end
theorem specV (n : Int) (p t : List Int) (b : List Bool) : Ev (fun k => spec_LeastGrade.f k n p t b) (if sysV n p t b = true then leastV n b else (-1)) := by
  unfold spec_LeastGrade.f
  refine Ev.bind (specSystem n p t b) ?_
  by_cases c : sysV n p t b = true
  · simp only [if_pos c]
    exact specLeast (sysV_ok c)
  · simp only [if_neg c]
    exact Ev.now _
theorem implV (n : Int) (p t : List Int) (b : List Bool) : Ev (fun k => impl_LeastGrade.f k n p t b) (if sysV n p t b = true then leastV n b else (-1)) := by
  unfold impl_LeastGrade.f
  refine Ev.bind (implSystem n p t b) ?_
  by_cases c : sysV n p t b = true
  · simp only [if_pos c]
    exact implLeast (sysV_ok c)
  · simp only [if_neg c]
    exact Ev.now _
theorem FnExactLeastGrade : laws_FnExactLeastGrade.Pure := by
  intro n p t b  hn hp ht hb 
  refine evRounds ?_
  unfold laws_FnExactLeastGrade.f
  obtain ⟨s, hs, _, _, hl⟩ := szSystem n p t b 1048576 (by decide) (by decide) hp.2 ht.2 hb.2
  simp only [hs, Option.bind_some]
  by_cases c : s < 0
  · simp only [if_pos c]; exact Ev.now _
  · obtain ⟨l1, l2, l3⟩ := hl c
    have ts := toSystem n p t b l1 l2 l3
    have es := eqSystem n p t b l1 l2 l3
    simp only [if_neg c]
    refine Ev.bind ts ?_
    refine Ev.bind (specV n p t b) ?_
    refine Ev.bind ts ?_
    refine Ev.bind (implV n p t b) ?_
    simp only [bne_self_eq_false, Bool.false_eq_true, if_false, if_true, eq_self]
    refine Ev.bind ts ?_
    refine Ev.bind es ?_
    simp only [if_true]
    exact Ev.now _
end Go.Proofs.Ythdbijjkcoafiaa.Pure
