/- Marked sets of grades. -/
import Derived.Test.YthdbijjkcoafiaaPf69
import Derived.Test.YthdbijjkcoafiaaPf70
import Derived.Test.YthdbijjkcoafiaaB1
set_option linter.unusedSimpArgs false
set_option linter.unusedVariables false
namespace Go.Proofs.Ythdbijjkcoafiaa.Pure
open Go.RowKit Go.Proofs.Ythdbijjkcoafiaa.P Go.Proofs.YthdbijjkcoafiaaW.PrintWords Go.Proofs.YthdbijjkcoafiaaW.PrintLast
/-- What a pair of grades tells of a marked set. -/
def v1 (n : Int) (p t : List Int) (b : List Bool) (s : List Bool) (x y : Int) : Option Bool :=
  if rdOf false s x = true then
    (if rdOf false s (A n p x y) = true ∧ rdOf false s (A n t x y) = rdOf false s y ∧ (L n b x y = true → rdOf false s y = true) then none else some false)
  else (if rdOf false s (A n p x y) = rdOf false s y ∧ rdOf false s (A n t x y) = false then none else some false)
def v0 (n : Int) (p t : List Int) (b : List Bool) (s : List Bool) (x : Int) : Option Bool := findO (v1 n p t b s x) 0 n.toNat
def markV (n : Int) (p t : List Int) (b : List Bool) (s : List Bool) : Bool := if rdOf false s 0 = false ∧ rdOf false s 1 = true then (findO (v0 n p t b s) 0 n.toNat).getD true else false
section
variable {n : Int} {p t : List Int} {b : List Bool} {s : List Bool}
theorem specMarks (h : OK n p t b) (hs : (s.length : Int) = n) : Ev (fun k => spec_l1View.l0 k s 0 n p t b) ((findO (v0 n p t b s) 0 n.toNat).getD true) := by
  have hn : 0 ≤ n := by have := h.lo; omega
  have up : ∀ x, 0 ≤ x → x < n → wrap64 (x + 1) = x + 1 := fun x h0 h1 => w64 (by omega) (by have := h.hi; omega)
  refine loop0 (F := fun k x => spec_l1View.l0 k s x n p t b) hn ?_ ?_
  · refine Ev.step (f := fun _ => some true) (fun k => ?_) (Ev.now _)
    simp only [spec_l1View.l0]; rw [if_neg (by omega)]
  · intro x x0 x1 r hr
    refine Ev.step (f := fun k => spec_l1View.l1 k s x 0 n p t b) (fun k => ?_) ?_
    · simp only [spec_l1View.l0]; rw [if_pos x1]
    · unfold v0
      refine loop0 (F := fun k y => spec_l1View.l1 k s x y n p t b) hn ?_ ?_
      · refine Ev.step (fun k => ?_) hr
        simp only [spec_l1View.l1]; rw [if_neg (by omega), up x x0 x1]
      · intro y y0 y1 r hr
        have hx : Rg n x := ⟨x0, x1⟩
        have hy : Rg n y := ⟨y0, y1⟩
        have ha := A_in h hx hy
        have hm := M_in h hx hy
        have ha' : A n p x y < (s.length : Int) := by rw [hs]; exact ha.2
        have hm' : A n t x y < (s.length : Int) := by rw [hs]; exact hm.2
        have x2 : x < (s.length : Int) := by omega
        have y2 : y < (s.length : Int) := by omega
        refine Ev.step (f := fun k => if v1 n p t b s x y = none then spec_l1View.l1 k s x (y + 1) n p t b else some false) (fun k => ?_) ?_
        · simp only [spec_l1View.l1, add_eq h hx hy, mul_eq h hx hy, le_eq h hx hy, Option.bind_some, if_pos y1, if_pos ha.1, if_pos ha', if_pos x0, if_pos x2, if_pos y0, if_pos y2, if_pos hm.1, if_pos hm', up y y0 y1]
          unfold v1
          generalize rdOf false s x = q1
          generalize rdOf false s (A n p x y) = q2
          generalize rdOf false s (A n t x y) = q3
          generalize rdOf false s y = q4
          generalize L n b x y = q5
          cases q1 <;> cases q2 <;> cases q3 <;> cases q4 <;> cases q5 <;> simp
        · cases c : v1 n p t b s x y with
          | none => simpa using hr
          | some u =>
            have : u = false := by
              unfold v1 at c
              repeat' split at c
              all_goals first | exact (Option.some.inj c).symm | cases c
            subst this
            simpa using Ev.now false
theorem implMarks (h : OK n p t b) (hs : (s.length : Int) = n) : Ev (fun k => impl_isView.l0 k s 0 n p t b) ((findO (v0 n p t b s) 0 n.toNat).getD true) := by
  have hn : 0 ≤ n := by have := h.lo; omega
  have up : ∀ x, 0 ≤ x → x < n → wrap64 (x + 1) = x + 1 := fun x h0 h1 => w64 (by omega) (by have := h.hi; omega)
  refine loop0 (F := fun k x => impl_isView.l0 k s x n p t b) hn ?_ ?_
  · refine Ev.step (f := fun _ => some true) (fun k => ?_) (Ev.now _)
    simp only [impl_isView.l0]; rw [if_neg (by omega)]
  · intro x x0 x1 r hr
    refine Ev.step (f := fun k => impl_isView.l1 k s x 0 n p t b) (fun k => ?_) ?_
    · simp only [impl_isView.l0]; rw [if_pos x1]
    · unfold v0
      refine loop0 (F := fun k y => impl_isView.l1 k s x y n p t b) hn ?_ ?_
      · refine Ev.step (fun k => ?_) hr
        simp only [impl_isView.l1]; rw [if_neg (by omega), up x x0 x1]
      · intro y y0 y1 r hr
        have hx : Rg n x := ⟨x0, x1⟩
        have hy : Rg n y := ⟨y0, y1⟩
        have ha := A_in h hx hy
        have hm := M_in h hx hy
        have ha' : A n p x y < (s.length : Int) := by rw [hs]; exact ha.2
        have hm' : A n t x y < (s.length : Int) := by rw [hs]; exact hm.2
        have x2 : x < (s.length : Int) := by omega
        have y2 : y < (s.length : Int) := by omega
        refine Ev.step (f := fun k => if v1 n p t b s x y = none then impl_isView.l1 k s x (y + 1) n p t b else some false) (fun k => ?_) ?_
        · simp only [impl_isView.l1, plus_is, times_is, below_is, add_eq h hx hy, mul_eq h hx hy, le_eq h hx hy, Option.bind_some, if_pos y1, if_pos ha.1, if_pos ha', if_pos x0, if_pos x2, if_pos y0, if_pos y2, if_pos hm.1, if_pos hm', up y y0 y1]
          unfold v1
          generalize rdOf false s x = q1
          generalize rdOf false s (A n p x y) = q2
          generalize rdOf false s (A n t x y) = q3
          generalize rdOf false s y = q4
          generalize L n b x y = q5
          cases q1 <;> cases q2 <;> cases q3 <;> cases q4 <;> cases q5 <;> simp
        · cases c : v1 n p t b s x y with
          | none => simpa using hr
          | some u =>
            have : u = false := by
              unfold v1 at c
              repeat' split at c
              all_goals first | exact (Option.some.inj c).symm | cases c
            subst this
            simpa using Ev.now false
theorem specMark (h : OK n p t b) (hs : (s.length : Int) = n) : Ev (fun k => spec_l1View.f k n p t b s) (markV n p t b s) := by
  have p0 : 0 < (s.length : Int) := by have := h.lo; omega
  have p1 : 1 < (s.length : Int) := by have := h.lo; omega
  unfold spec_l1View.f markV
  simp only [if_pos p0, if_pos p1]
  have main := specMarks h hs
  refine evCongr (f := fun k => spec_l1View.j0 k s (rdOf false s 0 || !rdOf false s 1) n p t b) (fun k => ?_) (Ev.step (f := fun k => if rdOf false s 0 = false ∧ rdOf false s 1 = true then spec_l1View.l0 k s 0 n p t b else some false) (fun k => ?_) ?_)
  · cases rdOf false s 0 <;> simp
  · simp only [spec_l1View.j0]
    cases rdOf false s 0 <;> cases rdOf false s 1 <;> simp
  · split
    · exact main
    · exact Ev.now _
theorem implMark (h : OK n p t b) (hs : (s.length : Int) = n) : Ev (fun k => impl_isView.f k n p t b s) (markV n p t b s) := by
  have p0 : 0 < (s.length : Int) := by have := h.lo; omega
  have p1 : 1 < (s.length : Int) := by have := h.lo; omega
  unfold impl_isView.f markV
  simp only [if_pos p0, if_pos p1]
  have main := implMarks h hs
  refine evCongr (f := fun k => impl_isView.j0 k s (!rdOf false s 1 || rdOf false s 0) n p t b) (fun k => ?_) (Ev.step (f := fun k => if rdOf false s 0 = false ∧ rdOf false s 1 = true then impl_isView.l0 k s 0 n p t b else some false) (fun k => ?_) ?_)
  · cases rdOf false s 1 <;> simp
  · simp only [impl_isView.j0]
    cases rdOf false s 0 <;> cases rdOf false s 1 <;> simp
  · split
    · exact main
    · exact Ev.now _
end
end Go.Proofs.Ythdbijjkcoafiaa.Pure
