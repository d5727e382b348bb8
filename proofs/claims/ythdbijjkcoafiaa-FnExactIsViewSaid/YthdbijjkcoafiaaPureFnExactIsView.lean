/- FnExactIsView: the pure statement. -/
import Derived.Test.YthdbijjkcoafiaaPf14
import Derived.Test.YthdbijjkcoafiaaB4
set_option linter.unusedSimpArgs false
set_option linter.unusedVariables false
namespace Go.Proofs.Ythdbijjkcoafiaa.Pure
open Go.RowKit Go.Proofs.Ythdbijjkcoafiaa.P Go.Proofs.YthdbijjkcoafiaaW.PrintWords Go.Proofs.YthdbijjkcoafiaaW.PrintLast
/-- What is told of a list of grades from its place i on, behind the marks s. -/
def listV (n : Int) (p t : List Int) (b : List Bool) (xs : List Int) : Nat → Int → List Bool → Bool
  | 0, _, s => markV n p t b s
  | m + 1, i, s => if inV (rd xs i) 0 (wrap64 (n - 1)) = true then (if i > 0 ∧ rd xs i ≤ rd xs (i - 1) then false else listV n p t b xs m (i + 1) (s.set (rd xs i).toNat true)) else false
section
variable {n : Int} {p t : List Int} {b : List Bool} {xs : List Int}
theorem specList (h : OK n p t b) (hl : xs.length ≤ 1048576) : ∀ (m : Nat) (i : Int) (s : List Bool), 0 ≤ i → i + m = xs.length → (s.length : Int) = n → Ev (fun k => spec_IsView.l0 k xs s i n p t b) (listV n p t b xs m i s)
  | 0, i, s, h0, h1, hs => by
    refine Ev.step (fun k => ?_) (Ev.bind (specMark h hs) (Ev.now _))
    simp only [spec_IsView.l0]; rw [if_neg (by omega)]
  | m + 1, i, s, h0, h1, hs => by
    have i1 : i < (xs.length : Int) := by omega
    have ih := specList h hl m (i + 1) (s.set (rd xs i).toNat true) (by omega) (by omega) (by simpa using hs)
    have up : wrap64 (i + 1) = i + 1 := w64 (by omega) (by omega)
    have dn : wrap64 (i - 1) = i - 1 := w64 (by omega) (by omega)
    refine Ev.step (f := fun k => if inV (rd xs i) 0 (wrap64 (n - 1)) = true then (if i > 0 ∧ rd xs i ≤ rd xs (i - 1) then some false else spec_IsView.l0 k xs (s.set (rd xs i).toNat true) (i + 1) n p t b) else some false) (fun k => ?_) ?_
    · simp only [spec_IsView.l0, in_eq, Option.bind_some, if_pos i1, if_pos h0, up, dn]
      by_cases c : inV (rd xs i) 0 (wrap64 (n - 1)) = true
      · have hx := (inV_Rg h).mp c
        have hx0 : 0 ≤ rd xs i := hx.1
        have hx1 : rd xs i < (s.length : Int) := by rw [hs]; exact hx.2
        simp only [if_pos c, if_pos hx0, if_pos hx1]
        by_cases ci : i > 0
        · have e1 : 0 ≤ i - 1 := by omega
          have e2 : i - 1 < (xs.length : Int) := by omega
          simp only [if_pos ci, if_pos e1, if_pos e2]
          by_cases cr : rd xs i ≤ rd xs (i - 1)
          · simp [cr, ci]
          · simp [cr, ci]
        · simp [ci]
      · simp only [if_neg c]
    · unfold listV
      split
      · split
        · exact Ev.now _
        · exact ih
      · exact Ev.now _
theorem implList (h : OK n p t b) (hl : xs.length ≤ 1048576) : ∀ (m : Nat) (i : Int) (s : List Bool), 0 ≤ i → i + m = xs.length → (s.length : Int) = n → Ev (fun k => impl_IsView.l0 k xs s xs (xs.length : Int) i n p t b) (listV n p t b xs m i s)
  | 0, i, s, h0, h1, hs => by
    refine Ev.step (fun k => ?_) (Ev.bind (implMark h hs) (Ev.now _))
    simp only [impl_IsView.l0]; rw [if_neg (by omega)]
  | m + 1, i, s, h0, h1, hs => by
    have i1 : i < (xs.length : Int) := by omega
    have ih := implList h hl m (i + 1) (s.set (rd xs i).toNat true) (by omega) (by omega) (by simpa using hs)
    have up : wrap64 (i + 1) = i + 1 := w64 (by omega) (by omega)
    have dn : wrap64 (i - 1) = i - 1 := w64 (by omega) (by omega)
    refine Ev.step (f := fun k => if inV (rd xs i) 0 (wrap64 (n - 1)) = true then (if i > 0 ∧ rd xs i ≤ rd xs (i - 1) then some false else impl_IsView.l0 k xs (s.set (rd xs i).toNat true) xs (xs.length : Int) (i + 1) n p t b) else some false) (fun k => ?_) ?_
    · simp only [impl_IsView.l0, has_eq, Option.bind_some, if_pos i1, if_pos h0, up, dn]
      by_cases c : inV (rd xs i) 0 (wrap64 (n - 1)) = true
      · have hx := (inV_Rg h).mp c
        have hx0 : 0 ≤ rd xs i := hx.1
        have hx1 : rd xs i < (s.length : Int) := by rw [hs]; exact hx.2
        simp only [if_pos c, if_pos hx0, if_pos hx1]
        by_cases ci : i > 0
        · have e1 : 0 ≤ i - 1 := by omega
          have e2 : i - 1 < (xs.length : Int) := by omega
          simp only [if_pos ci, if_pos e1, if_pos e2]
          by_cases cr : rd xs i ≤ rd xs (i - 1)
          · simp [cr, ci]
          · simp [cr, ci]
        · simp [ci]
      · simp only [if_neg c]
    · unfold listV
      split
      · split
        · exact Ev.now _
        · exact ih
      · exact Ev.now _
theorem specV (hl : xs.length ≤ 1048576) : Ev (fun k => spec_IsView.f k n p t b xs) (if sysV n p t b = true then listV n p t b xs xs.length 0 (List.replicate n.toNat false) else false) := by
  unfold spec_IsView.f
  refine Ev.bind (specSystem n p t b) ?_
  by_cases c : sysV n p t b = true
  · have h := sysV_ok c
    have n0 : 0 ≤ n := by have := h.lo; omega
    have n1 : n.toNat ≤ 281474976710656 := by have := h.hi; omega
    simp only [if_pos c, if_pos n0, if_pos n1]
    exact specList h hl xs.length 0 _ (by omega) (by omega) (by simp; omega)
  · simp only [if_neg c]
    exact Ev.now _
theorem implV (hl : xs.length ≤ 1048576) : Ev (fun k => impl_IsView.f k n p t b xs) (if sysV n p t b = true then listV n p t b xs xs.length 0 (List.replicate n.toNat false) else false) := by
  unfold impl_IsView.f
  refine Ev.bind (implSystem n p t b) ?_
  by_cases c : sysV n p t b = true
  · have h := sysV_ok c
    have n0 : 0 ≤ n := by have := h.lo; omega
    have n1 : n.toNat ≤ 281474976710656 := by have := h.hi; omega
    simp only [if_pos c, if_pos n0, if_pos n1]
    exact implList h hl xs.length 0 _ (by omega) (by omega) (by simp; omega)
  · simp only [if_neg c]
    exact Ev.now _
end
theorem FnExactIsView : laws_FnExactIsView.Pure := by
  intro n p t b l  hn hp ht hb hl1 
  refine evRounds ?_
  unfold laws_FnExactIsView.f
  by_cases c0 : (l.length : Int) > 1048576
  · simp only [if_pos c0]; exact Ev.now _
  · have l4 : l.length ≤ 1048576 := by omega
    simp only [if_neg c0]
    obtain ⟨s, hs, _, _, hl⟩ := szSystem n p t b 1048576 (by decide) (by decide) hp.2 ht.2 hb.2
    simp only [hs, Option.bind_some]
    by_cases c : s < 0
    · simp only [if_pos c]; exact Ev.now _
    · obtain ⟨l1, l2, l3⟩ := hl c
      have ts := toSystem n p t b l1 l2 l3
      have es := eqSystem n p t b l1 l2 l3
      have tl := toIntS l l4
      have el := eqIntS l l4
      simp only [if_neg c]
      refine Ev.bind ts ?_
      refine Ev.bind tl ?_
      refine Ev.bind (specV l4) ?_
      refine Ev.bind ts ?_
      refine Ev.bind tl ?_
      refine Ev.bind (implV l4) ?_
      simp only [bne_self_eq_false, Bool.false_eq_true, if_false, if_true, eq_self]
      refine Ev.bind ts ?_
      refine Ev.bind es ?_
      simp only [if_true]
      refine Ev.bind tl ?_
      refine Ev.bind el ?_
      simp only [if_true]
      exact Ev.now _
end Go.Proofs.Ythdbijjkcoafiaa.Pure
