/- FnExactMeetGrades: the pure statement. -/
import Derived.Test.YthdbijjkcoafiaaPf12
import Derived.Test.YthdbijjkcoafiaaB2
set_option linter.unusedSimpArgs false
set_option linter.unusedVariables false
namespace Go.Proofs.Ythdbijjkcoafiaa.Pure
open Go.RowKit Go.Proofs.Ythdbijjkcoafiaa.P Go.Proofs.YthdbijjkcoafiaaW.PrintWords Go.Proofs.YthdbijjkcoafiaaW.PrintLast
def mAll (n : Int) (b : List Bool) (x y z : Int) : Int → Nat → Bool
  | _, 0 => true
  | w, m + 1 => (!(L n b w x && L n b w y) || L n b w z) && mAll n b x y z (w + 1) m
def mg (n : Int) (b : List Bool) (x y z : Int) : Option Int := if (L n b z x && L n b z y && mAll n b x y z 0 n.toNat) = true then some z else none
def meetV (n : Int) (b : List Bool) (x y : Int) : Int := (findO (mg n b x y) 0 n.toNat).getD (-1)
section
variable {n : Int} {p t : List Int} {b : List Bool}
theorem specMeet_in (h : OK n p t b) {x y z : Int} (hx : Rg n x) (hy : Rg n y) (hz : Rg n z) {r : Int} (hr : Ev (fun k => spec_MeetGrades.l0 k x y (z + 1) n p t b) r) :
    ∀ (m : Nat) (w : Int) (ok : Bool), 0 ≤ w → w + m = n → Ev (fun k => spec_MeetGrades.l1 k x y z ok w n p t b) (if (ok && mAll n b x y z w m) = true then z else r)
  | 0, w, ok, h0, hw => by
    refine Ev.step (f := fun k => spec_MeetGrades.j3 k x y z ok w false n p t b) (fun k => ?_) (Ev.step (f := fun k => if ok = true then some z else spec_MeetGrades.l0 k x y (z + 1) n p t b) (fun k => ?_) ?_)
    · simp only [spec_MeetGrades.l1]; rw [if_neg (by omega)]
    · simp only [spec_MeetGrades.j3]; rw [if_neg (by decide), w64 (by have := hz.1; omega) (by have := hz.2; have := h.hi; omega)]
    · cases ok
      · simpa [mAll] using hr
      · simpa [mAll] using Ev.now z
  | m + 1, w, ok, h0, hw => by
    have hw' : Rg n w := ⟨h0, by omega⟩
    have e1 : wrap64 (w + 1) = w + 1 := w64 (by omega) (by have := h.hi; omega)
    have e2 : wrap64 (z + 1) = z + 1 := w64 (by have := hz.1; omega) (by have := hz.2; have := h.hi; omega)
    have ih := specMeet_in h hx hy hz hr m (w + 1)
    cases ok
    · refine Ev.step (f := fun k => spec_MeetGrades.j3 k x y z false w false n p t b) (fun k => ?_) (Ev.step (f := fun k => spec_MeetGrades.l0 k x y (z + 1) n p t b) (fun k => ?_) ?_)
      · simp only [spec_MeetGrades.l1]; rw [if_pos (by omega)]
      · simp only [spec_MeetGrades.j3]; rw [if_neg (by decide), if_neg (by decide), e2]
      · simpa using hr
    · refine Ev.step (f := fun k => spec_MeetGrades.j3 k x y z true w true n p t b) (fun k => ?_) (Ev.step (f := fun k => spec_MeetGrades.l1 k x y z (!(L n b w x && L n b w y) || L n b w z) (w + 1) n p t b) (fun k => ?_) ?_)
      · simp only [spec_MeetGrades.l1]; rw [if_pos (by omega)]
      · simp only [spec_MeetGrades.j3, le_eq h hw' hx, le_eq h hw' hy, le_eq h hw' hz, Option.bind_some, e1, if_true]
        cases L n b w x <;> cases L n b w y <;> simp
      · have := ih (!(L n b w x && L n b w y) || L n b w z) (by omega) (by omega)
        simpa [mAll] using this
theorem specMeet (h : OK n p t b) {x y : Int} (hx : Rg n x) (hy : Rg n y) : Ev (fun k => spec_MeetGrades.l0 k x y 0 n p t b) (meetV n b x y) := by
  refine loop0 (F := fun k z => spec_MeetGrades.l0 k x y z n p t b) (by have := h.lo; omega) ?_ ?_
  · refine Ev.step (f := fun _ => some (-1)) (fun k => ?_) (Ev.now _)
    simp only [spec_MeetGrades.l0]; rw [if_neg (by omega)]
  · intro z h0 h1 r hr
    have hz : Rg n z := ⟨h0, h1⟩
    have := specMeet_in h hx hy hz hr n.toNat 0 (L n b z x && L n b z y) (by omega) (by omega)
    refine Ev.step (f := fun k => spec_MeetGrades.j1 k x y z (L n b z x && L n b z y) n p t b) (fun k => ?_) (Ev.step (f := fun k => spec_MeetGrades.l1 k x y z (L n b z x && L n b z y) 0 n p t b) (fun k => ?_) ?_)
    · simp only [spec_MeetGrades.l0, le_eq h hz hx, le_eq h hz hy, Option.bind_some]
      rw [if_pos h1]
      cases L n b z x <;> simp
    · simp only [spec_MeetGrades.j1]
    · unfold mg
      revert this
      cases (L n b z x && L n b z y && mAll n b x y z 0 n.toNat) <;> simp
theorem implMeet_in (h : OK n p t b) {x y z : Int} (hx : Rg n x) (hy : Rg n y) (hz : Rg n z) {r : Int} (hr : Ev (fun k => impl_MeetGrades.l0 k x y (z + 1) n p t b) r) :
    ∀ (m : Nat) (w : Int) (ok : Bool), 0 ≤ w → w + m = n → Ev (fun k => impl_MeetGrades.l1 k x y z ok w n p t b) (if (ok && mAll n b x y z w m) = true then z else r)
  | 0, w, ok, h0, hw => by
    refine Ev.step (f := fun k => if ok = true then some z else impl_MeetGrades.l0 k x y (z + 1) n p t b) (fun k => ?_) ?_
    · simp only [impl_MeetGrades.l1]; rw [if_neg (by omega), w64 (by have := hz.1; omega) (by have := hz.2; have := h.hi; omega)]
    · cases ok
      · simpa [mAll] using hr
      · simpa [mAll] using Ev.now z
  | m + 1, w, ok, h0, hw => by
    have hw' : Rg n w := ⟨h0, by omega⟩
    have e1 : wrap64 (w + 1) = w + 1 := w64 (by omega) (by have := h.hi; omega)
    have ih := implMeet_in h hx hy hz hr m (w + 1)
    cases ok
    · refine Ev.step (f := fun k => impl_MeetGrades.l1 k x y z false (w + 1) n p t b) (fun k => ?_) ?_
      · simp only [impl_MeetGrades.l1]; rw [if_pos (by omega), if_neg (by decide), e1]
      · simpa using ih false (by omega) (by omega)
    · refine Ev.step (f := fun k => impl_MeetGrades.l1 k x y z (!(L n b w x && L n b w y) || L n b w z) (w + 1) n p t b) (fun k => ?_) ?_
      · simp only [impl_MeetGrades.l1, below_is, le_eq h hw' hx, le_eq h hw' hy, le_eq h hw' hz, Option.bind_some, e1, if_true]
        rw [if_pos (by omega)]
        cases L n b w x <;> cases L n b w y <;> simp
      · have := ih (!(L n b w x && L n b w y) || L n b w z) (by omega) (by omega)
        simpa [mAll] using this
theorem implMeet (h : OK n p t b) {x y : Int} (hx : Rg n x) (hy : Rg n y) : Ev (fun k => impl_MeetGrades.l0 k x y 0 n p t b) (meetV n b x y) := by
  refine loop0 (F := fun k z => impl_MeetGrades.l0 k x y z n p t b) (by have := h.lo; omega) ?_ ?_
  · refine Ev.step (f := fun _ => some (-1)) (fun k => ?_) (Ev.now _)
    simp only [impl_MeetGrades.l0]; rw [if_neg (by omega)]
  · intro z h0 h1 r hr
    have hz : Rg n z := ⟨h0, h1⟩
    have e2 : wrap64 (z + 1) = z + 1 := w64 (by omega) (by have := h.hi; omega)
    have := implMeet_in h hx hy hz hr n.toNat 0 true (by omega) (by omega)
    refine Ev.step (f := fun k => impl_MeetGrades.j1 k x y z (!(L n b z x && L n b z y)) n p t b) (fun k => ?_) (Ev.step (f := fun k => if (L n b z x && L n b z y) = true then impl_MeetGrades.l1 k x y z true 0 n p t b else impl_MeetGrades.l0 k x y (z + 1) n p t b) (fun k => ?_) ?_)
    · simp only [impl_MeetGrades.l0, below_is, le_eq h hz hx, le_eq h hz hy, Option.bind_some]
      rw [if_pos h1]
      cases L n b z x <;> simp
    · simp only [impl_MeetGrades.j1, e2]
      cases (L n b z x && L n b z y) <;> simp
    · unfold mg
      revert this
      cases (L n b z x && L n b z y)
      · simp; exact fun _ => hr
      · cases (mAll n b x y z 0 n.toNat) <;> simp
end
theorem specV (n : Int) (p t : List Int) (b : List Bool) (x y : Int) : Ev (fun k => spec_MeetGrades.f k n p t b x y) (if bothV n p t b x y = true then meetV n b x y else (-1)) := by
  unfold spec_MeetGrades.f
  refine Ev.bind (specBoth n p t b x y) ?_
  by_cases c : bothV n p t b x y = true
  · obtain ⟨h, hx, hy⟩ := both_ok c
    simp only [if_pos c]
    exact specMeet h hx hy
  · simp only [if_neg c]
    exact Ev.now _
theorem implV (n : Int) (p t : List Int) (b : List Bool) (x y : Int) : Ev (fun k => impl_MeetGrades.f k n p t b x y) (if bothV n p t b x y = true then meetV n b x y else (-1)) := by
  unfold impl_MeetGrades.f
  refine Ev.bind (implBoth n p t b x y) ?_
  by_cases c : bothV n p t b x y = true
  · obtain ⟨h, hx, hy⟩ := both_ok c
    simp only [if_pos c]
    exact implMeet h hx hy
  · simp only [if_neg c]
    exact Ev.now _
theorem FnExactMeetGrades : laws_FnExactMeetGrades.Pure := by
  intro n p t b x y hn hp ht hb hx hy
  refine evRounds ?_
  unfold laws_FnExactMeetGrades.f
  obtain ⟨s, hs, _, _, hl⟩ := szSystem n p t b 1048576 (by decide) (by decide) hp.2 ht.2 hb.2
  simp only [hs, Option.bind_some]
  by_cases c : s < 0
  · simp only [if_pos c]; exact Ev.now _
  · obtain ⟨l1, l2, l3⟩ := hl c
    have ts := toSystem n p t b l1 l2 l3
    have es := eqSystem n p t b l1 l2 l3
    simp only [if_neg c]
    refine Ev.bind ts ?_
    refine Ev.bind (specV n p t b x y) ?_
    refine Ev.bind ts ?_
    refine Ev.bind (implV n p t b x y) ?_
    simp only [bne_self_eq_false, Bool.false_eq_true, if_false, if_true, eq_self]
    refine Ev.bind ts ?_
    refine Ev.bind es ?_
    simp only [if_true]
    exact Ev.now _
end Go.Proofs.Ythdbijjkcoafiaa.Pure
