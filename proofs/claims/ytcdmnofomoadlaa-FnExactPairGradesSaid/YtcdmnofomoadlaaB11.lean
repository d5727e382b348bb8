/- Pairs of grades: the program's list of them is the reference's count. -/
import Derived.Test.YtcdmnofomoadlaaPf63
import Derived.Test.YtcdmnofomoadlaaPf65
import Derived.Test.YtcdmnofomoadlaaPf86
import Derived.Test.YtcdmnofomoadlaaPf87
import Derived.Test.YtcdmnofomoadlaaPf81
import Derived.Test.YtcdmnofomoadlaaPf79
import Derived.Test.YtcdmnofomoadlaaPf62
import Derived.Test.YtcdmnofomoadlaaB1
import Derived.KernelRfl
set_option linter.unusedSimpArgs false
set_option linter.unusedVariables false
namespace Go.Proofs.Ytcdmnofomoadlaa.Pure
open Go.RowKit Go.Proofs.Ytcdmnofomoadlaa.P Go.Proofs.YtcdmnofomoadlaaW.PrintWords Go.Proofs.YtcdmnofomoadlaaW.PrintLast
abbrev Pr := S71
abbrev rdP (l : List Pr) (i : Int) : Pr := rd_T71 l i
/-- What is to be looked at, size by size. -/
def goodL (a b : Nat) (L : List Pr) : Bool :=
  decide (L.length = a * b) &&
  ((List.range (a * b)).all fun g => decide (spec_l1First.f b (g : Int) = some (rdP L g).f0) && decide (spec_l1Second.f b (g : Int) = some (rdP L g).f1)) &&
  ((List.range a).all fun x => (List.range b).all fun y => decide (slices_Index_2_int_2_int.f 64 L (x : Int) (y : Int) = spec_l1Pair.f b (x : Int) (y : Int)) && (spec_l1Pair.f b (x : Int) (y : Int)).any fun (g : Int) => decide (0 ≤ g ∧ g < (a : Int) * (b : Int))) &&
  (L.all fun e => decide (0 ≤ e.f0 ∧ e.f0 < a ∧ 0 ≤ e.f1 ∧ e.f1 < b))
def goodP (a b : Nat) : Bool := (impl_pairs.f 64 a [] [] [] b [] [] []).any (goodL a b)
def sizes : List (Nat × Nat) := [(2, 2), (2, 3), (2, 4), (2, 5), (2, 6), (2, 7), (2, 8), (3, 2), (3, 3), (3, 4), (3, 5), (4, 2), (4, 3), (4, 4), (5, 2), (5, 3), (6, 2), (7, 2), (8, 2)]
theorem good_all : ∀ p ∈ sizes, goodP p.1 p.2 = true := by decide +kernel
theorem in_sizes {a b : Nat} (h1 : 2 ≤ a) (h2 : 2 ≤ b) (h3 : a * b ≤ 16) : (a, b) ∈ sizes := by
  have a8 : a ≤ 8 := by
    have := Nat.mul_le_mul_left a h2
    omega
  have b8 : b ≤ 8 := by
    have := Nat.mul_le_mul_right b h1
    omega
  have all : ((List.range 9).all fun x => (List.range 9).all fun y => !(decide (2 ≤ x) && decide (2 ≤ y) && decide (x * y ≤ 16)) || sizes.contains (x, y)) = true := by decide +kernel
  have := List.all_eq_true.mp (List.all_eq_true.mp all a (List.mem_range.mpr (by omega))) b (List.mem_range.mpr (by omega))
  simpa [h1, h2, h3] using this
/-- The tables are not looked at. -/
theorem pairs_eq (a b : Nat) (p t p' t' : List Int) (u u' : List Bool) : ∀ k, impl_pairs.f k a p t u b p' t' u' = impl_pairs.f k a [] [] [] b [] [] [] := by
  have both : ∀ k, (∀ l i, impl_pairs.l0 k l i a p t u b p' t' u' = impl_pairs.l0 k l i a [] [] [] b [] [] []) ∧ (∀ l i j, impl_pairs.l1 k l i j a p t u b p' t' u' = impl_pairs.l1 k l i j a [] [] [] b [] [] []) := by
    intro k
    induction k with
    | zero => exact ⟨fun _ _ => rfl, fun _ _ _ => rfl⟩
    | succ k ih =>
      refine ⟨fun l i => ?_, fun l i j => ?_⟩
      · simp only [impl_pairs.l0, ih.2]
      · simp only [impl_pairs.l1, ih.1, ih.2]
  intro k
  unfold impl_pairs.f
  exact (both k).1 _ _
theorem LeO.of_none {α : Type} (x : Option α) : LeO none x := fun _ h => by cases h
theorem pairs_more (a b : Nat) : ∀ k, LeO (impl_pairs.f k a [] [] [] b [] [] []) (impl_pairs.f (k + 1) a [] [] [] b [] [] []) := by
  have both : ∀ k, (∀ l i r, impl_pairs.l0 k l i a [] [] [] b [] [] [] = some r → impl_pairs.l0 (k + 1) l i a [] [] [] b [] [] [] = some r) ∧ (∀ l i j r, impl_pairs.l1 k l i j a [] [] [] b [] [] [] = some r → impl_pairs.l1 (k + 1) l i j a [] [] [] b [] [] [] = some r) := by
    intro k
    induction k with
    | zero => exact ⟨fun _ _ _ h => by simp [impl_pairs.l0] at h, fun _ _ _ _ h => by simp [impl_pairs.l1] at h⟩
    | succ k ih =>
      refine ⟨fun l i r h => ?_, fun l i j r h => ?_⟩
      · rw [impl_pairs.l0] at h ⊢
        split
        · rename_i c; rw [if_pos c] at h; exact ih.2 _ _ _ _ h
        · rename_i c; rw [if_neg c] at h; exact h
      · rw [impl_pairs.l1] at h ⊢
        repeat' split at h
        all_goals (first | (cases h; done) | skip)
        all_goals simp only [*, if_true, if_false, Bool.false_eq_true]
        all_goals first | exact ih.2 _ _ _ _ h | exact ih.1 _ _ _ h
  intro k r h
  unfold impl_pairs.f at h ⊢
  exact (both k).1 _ _ _ h
structure Two (a b : Nat) (L : List Pr) : Prop where
  len : L.length = a * b
  ev : ∀ (p t p' t' : List Int) (u u' : List Bool), Ev (fun k => impl_pairs.f k a p t u b p' t' u') L
  first : ∀ g : Nat, g < a * b → spec_l1First.f b (g : Int) = some (rdP L g).f0
  second : ∀ g : Nat, g < a * b → spec_l1Second.f b (g : Int) = some (rdP L g).f1
  idx : ∀ x y : Nat, x < a → y < b → slices_Index_2_int_2_int.f 64 L (x : Int) (y : Int) = spec_l1Pair.f b (x : Int) (y : Int)
  num : ∀ x y : Nat, x < a → y < b → ∃ g : Int, spec_l1Pair.f b (x : Int) (y : Int) = some g ∧ 0 ≤ g ∧ g < a * b
  inr : ∀ e ∈ L, 0 ≤ e.f0 ∧ e.f0 < a ∧ 0 ≤ e.f1 ∧ e.f1 < b
theorem two_good {a b : Nat} {L : List Pr} (h : goodL a b L = true) (ev : ∀ (p t p' t' : List Int) (u u' : List Bool), Ev (fun k => impl_pairs.f k a p t u b p' t' u') L) : Two a b L := by
  simp only [goodL, Bool.and_eq_true, decide_eq_true_eq, List.all_eq_true, List.mem_range] at h
  obtain ⟨⟨⟨g2, g3⟩, g4⟩, g5⟩ := h
  refine ⟨g2, ev, fun g hg => (g3 g hg).1, fun g hg => (g3 g hg).2, fun x y hx hy => (g4 x hx y hy).1, fun x y hx hy => ?_, g5⟩
  have := (g4 x hx y hy).2
  cases c : spec_l1Pair.f (b : Int) (x : Int) (y : Int) with
  | none => rw [c] at this; cases this
  | some g => rw [c] at this; exact ⟨g, rfl, of_decide_eq_true this⟩
theorem two_of {a b : Nat} (h1 : 2 ≤ a) (h2 : 2 ≤ b) (h3 : a * b ≤ 16) : ∃ L, Two a b L := by
  have h := good_all (a, b) (in_sizes h1 h2 h3)
  unfold goodP at h
  have ev := fun (p t p' t' : List Int) (u u' : List Bool) (L : List Pr) (k : Nat) (hl : impl_pairs.f k a [] [] [] b [] [] [] = some L) => evCongr (fun k => pairs_eq a b p t p' t' u u' k) (Ev.of (pairs_more a b) hl)
  generalize hk : 64 = k at h
  cases c : impl_pairs.f k a [] [] [] b [] [] [] with
  | none => rw [c] at h; cases h
  | some L => rw [c] at h; exact ⟨L, two_good h fun p t p' t' u u' => ev p t p' t' u u' L k c⟩
theorem index_more (l : List Pr) (x y : Int) : ∀ k, LeO (slices_Index_2_int_2_int.f k l x y) (slices_Index_2_int_2_int.f (k + 1) l x y) := by
  have go : ∀ k n i r, slices_Index_2_int_2_int.l0 k l n i x y = some r → slices_Index_2_int_2_int.l0 (k + 1) l n i x y = some r := by
    intro k
    induction k with
    | zero => intro n i r h; simp [slices_Index_2_int_2_int.l0] at h
    | succ k ih =>
      intro n i r h
      rw [slices_Index_2_int_2_int.l0] at h ⊢
      repeat' split at h
      all_goals (first | (cases h; done) | skip)
      all_goals simp only [*, if_true, if_false, Bool.false_eq_true]
      all_goals first | exact ih _ _ _ h | exact h
  intro k r h
  unfold slices_Index_2_int_2_int.f at h ⊢
  exact go k _ _ _ h
theorem rdP_mem (l : List Pr) (i : Int) (h0 : 0 ≤ i) (h1 : i < l.length) : rdP l i ∈ l := by
  have : i.toNat < l.length := by omega
  show l.getD i.toNat _ ∈ l
  rw [List.getD_eq_getElem?_getD, List.getElem?_eq_getElem this]
  exact List.getElem_mem this
/-- What is none of them has no place. -/
theorem index_none (l : List Pr) (hl : (l.length : Int) < 4611686018427387904) (x y : Int) (h : ∀ e ∈ l, ¬ (x = e.f0 ∧ y = e.f1)) : Ev (fun k => slices_Index_2_int_2_int.f k l x y) (-1) := by
  unfold slices_Index_2_int_2_int.f
  have lp : ∀ (m : Nat) (i : Int), 0 ≤ i → i + m = l.length → Ev (fun k => slices_Index_2_int_2_int.l0 k l (l.length : Int) i x y) (-1) := by
    intro m
    induction m with
    | zero =>
      intro i h0 hi
      refine Ev.step (f := fun _ => some (-1)) (fun k => ?_) (Ev.now _)
      simp only [slices_Index_2_int_2_int.l0]; rw [if_neg (by omega)]
    | succ m ih =>
      intro i h0 hi
      refine Ev.step (f := fun k => slices_Index_2_int_2_int.l0 k l (l.length : Int) (i + 1) x y) (fun k => ?_) (ih (i + 1) (by omega) (by omega))
      have i1 : i < (l.length : Int) := by omega
      have hx := h _ (rdP_mem l i h0 i1)
      simp only [slices_Index_2_int_2_int.l0, if_pos i1, if_pos h0, w64 (x := i + 1) (by omega) (by omega)]
      rw [if_neg]
      simp only [Bool.and_eq_true, beq_iff_eq]
      exact hx
  exact lp l.length 0 (by omega) (by omega)
section
variable {n n' : Int} {p t p' t' : List Int} {b b' : List Bool}
def prodV (n : Int) (p t : List Int) (b : List Bool) (n' : Int) (p' t' : List Int) (b' : List Bool) : Bool := sysV n p t b && (sysV n' p' t' b' && decide (wrap64 (n * n') ≤ 16))
theorem specProd : Ev (fun k => spec_l1Product.f k n p t b n' p' t' b') (prodV n p t b n' p' t' b') := by
  unfold spec_l1Product.f prodV
  refine Ev.bind (specSystem n p t b) ?_
  cases sysV n p t b
  · simpa using Ev.now false
  · simp only [if_true, Bool.true_and]
    refine Ev.bind (specSystem n' p' t' b') ?_
    cases sysV n' p' t' b'
    · simpa using Ev.now false
    · simp only [if_true, Bool.true_and]; exact Ev.now _
theorem implProd : Ev (fun k => impl_isProduct.f k n p t b n' p' t' b') (prodV n p t b n' p' t' b') := by
  unfold impl_isProduct.f prodV
  refine Ev.bind (implSystem n p t b) ?_
  cases sysV n p t b
  · simpa using Ev.now false
  · simp only [if_true, Bool.true_and]
    refine Ev.bind (implSystem n' p' t' b') ?_
    cases sysV n' p' t' b'
    · simpa using Ev.now false
    · simp only [if_true, Bool.true_and]; exact Ev.now _
theorem prod_ok (h : prodV n p t b n' p' t' b' = true) : OK n p t b ∧ OK n' p' t' b' ∧ wrap64 (n * n') = n * n' ∧ ∃ x y : Nat, n = x ∧ n' = y ∧ x * y ≤ 16 ∧ n * n' = ((x * y : Nat) : Int) ∧ ∃ L, Two x y L := by
  unfold prodV at h
  rw [Bool.and_eq_true, Bool.and_eq_true, decide_eq_true_eq] at h
  have o := sysV_ok h.1
  have o' := sysV_ok h.2.1
  have l1 := o.lo; have l2 := o.hi; have l3 := o'.lo; have l4 := o'.hi
  obtain ⟨x, rfl⟩ := Int.eq_ofNat_of_zero_le (show 0 ≤ n by omega)
  obtain ⟨y, rfl⟩ := Int.eq_ofNat_of_zero_le (show 0 ≤ n' by omega)
  have e : (x : Int) * (y : Int) = ((x * y : Nat) : Int) := by push_cast; rfl
  have hm : x * y ≤ 16 * 16 := Nat.mul_le_mul (by omega) (by omega)
  have w : wrap64 ((x : Int) * (y : Int)) = (x : Int) * (y : Int) := w64 (by omega) (by omega)
  have h3 : x * y ≤ 16 := by have := h.2.2; rw [w, e] at this; omega
  exact ⟨o, o', w, x, y, rfl, rfl, h3, e, two_of (by omega) (by omega) h3⟩
end
end Go.Proofs.Ytcdmnofomoadlaa.Pure
