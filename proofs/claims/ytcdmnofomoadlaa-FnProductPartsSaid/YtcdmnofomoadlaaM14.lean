-- Several texts in one (wip/tools/merge.py).
import Derived.Test.YtcdmnofomoadlaaPf63
import Derived.Test.YtcdmnofomoadlaaM3
import Derived.Test.YtcdmnofomoadlaaM5
import Derived.Test.YtcdmnofomoadlaaM6
import Derived.Test.YtcdmnofomoadlaaM11
import Derived.Test.YtcdmnofomoadlaaM12
import Derived.KernelRfl
import Derived.Test.YtcdmnofomoadlaaM1
import Derived.Test.YtcdmnofomoadlaaM2
import Derived.Test.YtcdmnofomoadlaaM4
import Derived.Laws.EntriesVeiled
section
/- Pairs of grades: the program's list of them is the reference's count. -/
set_option linter.unusedSimpArgs false
set_option linter.unusedVariables false
namespace Go.Proofs.Ytcdmnofomoadlaa.Pure
open Go.RowKit Go.Proofs.Ytcdmnofomoadlaa.P Go.Proofs.YtcdmnofomoadlaaW.PrintWords Go.Proofs.YtcdmnofomoadlaaW.PrintLast
abbrev Pr := S71
abbrev rdP (l : List Pr) (i : Int) : Pr := rd_T71 l i
/-- What is to be looked at, size by size. -/
def goodL (a b : Nat) (L : List Pr) : Bool :=
  decide (L.length = a * b) &&
  ((List.range (a * b)).all fun g => decide (spec_l1First.f b (g : Int) = some (rdP L g).f0) && decide (spec_l1Second.f b (g : Int) = some (rdP L g).f1)) &&
  ((List.range a).all fun x => (List.range b).all fun y => decide (slices_Index_2_int_2_int.f 64 L (x : Int) (y : Int) = spec_l1Pair.f b (x : Int) (y : Int)) && (spec_l1Pair.f b (x : Int) (y : Int)).any fun (g : Int) => decide (0 ≤ g ∧ g < (a : Int) * (b : Int))) &&
  (L.all fun e => decide (0 ≤ e.f0 ∧ e.f0 < a ∧ 0 ≤ e.f1 ∧ e.f1 < b))
def goodP (a b : Nat) : Bool := (impl_pairs.f 64 a [] [] [] b [] [] []).any (goodL a b)
def sizes : List (Nat × Nat) := [(2, 2), (2, 3), (2, 4), (2, 5), (2, 6), (2, 7), (2, 8), (3, 2), (3, 3), (3, 4), (3, 5), (4, 2), (4, 3), (4, 4), (5, 2), (5, 3), (6, 2), (7, 2), (8, 2)]
theorem good_all : ∀ p ∈ sizes, goodP p.1 p.2 = true := by decide +kernel
theorem in_sizes {a b : Nat} (h1 : 2 ≤ a) (h2 : 2 ≤ b) (h3 : a * b ≤ 16) : (a, b) ∈ sizes := by
  have a8 : a ≤ 8 := by
    have := Nat.mul_le_mul_left a h2
    omega
  have b8 : b ≤ 8 := by
    have := Nat.mul_le_mul_right b h1
    omega
  have all : ((List.range 9).all fun x => (List.range 9).all fun y => !(decide (2 ≤ x) && decide (2 ≤ y) && decide (x * y ≤ 16)) || sizes.contains (x, y)) = true := by decide +kernel
  have := List.all_eq_true.mp (List.all_eq_true.mp all a (List.mem_range.mpr (by omega))) b (List.mem_range.mpr (by omega))
  simpa [h1, h2, h3] using this
/-- The tables are not looked at. -/
theorem pairs_eq (a b : Nat) (p t p' t' : List Int) (u u' : List Bool) : ∀ k, impl_pairs.f k a p t u b p' t' u' = impl_pairs.f k a [] [] [] b [] [] [] := by
  have both : ∀ k, (∀ l i, impl_pairs.l0 k l i a p t u b p' t' u' = impl_pairs.l0 k l i a [] [] [] b [] [] []) ∧ (∀ l i j, impl_pairs.l1 k l i j a p t u b p' t' u' = impl_pairs.l1 k l i j a [] [] [] b [] [] []) := by
    intro k
    induction k with
    | zero => exact ⟨fun _ _ => rfl, fun _ _ _ => rfl⟩
    | succ k ih =>
      refine ⟨fun l i => ?_, fun l i j => ?_⟩
      · simp only [impl_pairs.l0, ih.2]
      · simp only [impl_pairs.l1, ih.1, ih.2]
  intro k
  unfold impl_pairs.f
  exact (both k).1 _ _
theorem LeO.of_none {α : Type} (x : Option α) : LeO none x := fun _ h => by cases h
theorem pairs_more (a b : Nat) : ∀ k, LeO (impl_pairs.f k a [] [] [] b [] [] []) (impl_pairs.f (k + 1) a [] [] [] b [] [] []) := by
  have both : ∀ k, (∀ l i r, impl_pairs.l0 k l i a [] [] [] b [] [] [] = some r → impl_pairs.l0 (k + 1) l i a [] [] [] b [] [] [] = some r) ∧ (∀ l i j r, impl_pairs.l1 k l i j a [] [] [] b [] [] [] = some r → impl_pairs.l1 (k + 1) l i j a [] [] [] b [] [] [] = some r) := by
    intro k
    induction k with
    | zero => exact ⟨fun _ _ _ h => by simp [impl_pairs.l0] at h, fun _ _ _ _ h => by simp [impl_pairs.l1] at h⟩
    | succ k ih =>
      refine ⟨fun l i r h => ?_, fun l i j r h => ?_⟩
      · rw [impl_pairs.l0] at h ⊢
        split
        · rename_i c; rw [if_pos c] at h; exact ih.2 _ _ _ _ h
        · rename_i c; rw [if_neg c] at h; exact h
      · rw [impl_pairs.l1] at h ⊢
        repeat' split at h
        all_goals (first | (cases h; done) | skip)
        all_goals simp only [*, if_true, if_false, Bool.false_eq_true]
        all_goals first | exact ih.2 _ _ _ _ h | exact ih.1 _ _ _ h
  intro k r h
  unfold impl_pairs.f at h ⊢
  exact (both k).1 _ _ _ h
structure Two (a b : Nat) (L : List Pr) : Prop where
  len : L.length = a * b
  ev : ∀ (p t p' t' : List Int) (u u' : List Bool), Ev (fun k => impl_pairs.f k a p t u b p' t' u') L
  first : ∀ g : Nat, g < a * b → spec_l1First.f b (g : Int) = some (rdP L g).f0
  second : ∀ g : Nat, g < a * b → spec_l1Second.f b (g : Int) = some (rdP L g).f1
  idx : ∀ x y : Nat, x < a → y < b → slices_Index_2_int_2_int.f 64 L (x : Int) (y : Int) = spec_l1Pair.f b (x : Int) (y : Int)
  num : ∀ x y : Nat, x < a → y < b → ∃ g : Int, spec_l1Pair.f b (x : Int) (y : Int) = some g ∧ 0 ≤ g ∧ g < a * b
  inr : ∀ e ∈ L, 0 ≤ e.f0 ∧ e.f0 < a ∧ 0 ≤ e.f1 ∧ e.f1 < b
theorem two_good {a b : Nat} {L : List Pr} (h : goodL a b L = true) (ev : ∀ (p t p' t' : List Int) (u u' : List Bool), Ev (fun k => impl_pairs.f k a p t u b p' t' u') L) : Two a b L := by
  simp only [goodL, Bool.and_eq_true, decide_eq_true_eq, List.all_eq_true, List.mem_range] at h
  obtain ⟨⟨⟨g2, g3⟩, g4⟩, g5⟩ := h
  refine ⟨g2, ev, fun g hg => (g3 g hg).1, fun g hg => (g3 g hg).2, fun x y hx hy => (g4 x hx y hy).1, fun x y hx hy => ?_, g5⟩
  have := (g4 x hx y hy).2
  cases c : spec_l1Pair.f (b : Int) (x : Int) (y : Int) with
  | none => rw [c] at this; cases this
  | some g => rw [c] at this; exact ⟨g, rfl, of_decide_eq_true this⟩
theorem two_of {a b : Nat} (h1 : 2 ≤ a) (h2 : 2 ≤ b) (h3 : a * b ≤ 16) : ∃ L, Two a b L := by
  have h := good_all (a, b) (in_sizes h1 h2 h3)
  unfold goodP at h
  have ev := fun (p t p' t' : List Int) (u u' : List Bool) (L : List Pr) (k : Nat) (hl : impl_pairs.f k a [] [] [] b [] [] [] = some L) => evCongr (fun k => pairs_eq a b p t p' t' u u' k) (Ev.of (pairs_more a b) hl)
  generalize hk : 64 = k at h
  cases c : impl_pairs.f k a [] [] [] b [] [] [] with
  | none => rw [c] at h; cases h
  | some L => rw [c] at h; exact ⟨L, two_good h fun p t p' t' u u' => ev p t p' t' u u' L k c⟩
theorem index_more (l : List Pr) (x y : Int) : ∀ k, LeO (slices_Index_2_int_2_int.f k l x y) (slices_Index_2_int_2_int.f (k + 1) l x y) := by
  have go : ∀ k n i r, slices_Index_2_int_2_int.l0 k l n i x y = some r → slices_Index_2_int_2_int.l0 (k + 1) l n i x y = some r := by
    intro k
    induction k with
    | zero => intro n i r h; simp [slices_Index_2_int_2_int.l0] at h
    | succ k ih =>
      intro n i r h
      rw [slices_Index_2_int_2_int.l0] at h ⊢
      repeat' split at h
      all_goals (first | (cases h; done) | skip)
      all_goals simp only [*, if_true, if_false, Bool.false_eq_true]
      all_goals first | exact ih _ _ _ h | exact h
  intro k r h
  unfold slices_Index_2_int_2_int.f at h ⊢
  exact go k _ _ _ h
theorem rdP_mem (l : List Pr) (i : Int) (h0 : 0 ≤ i) (h1 : i < l.length) : rdP l i ∈ l := by
  have : i.toNat < l.length := by omega
  show l.getD i.toNat _ ∈ l
  rw [List.getD_eq_getElem?_getD, List.getElem?_eq_getElem this]
  exact List.getElem_mem this
/-- What is none of them has no place. -/
theorem index_none (l : List Pr) (hl : (l.length : Int) < 4611686018427387904) (x y : Int) (h : ∀ e ∈ l, ¬ (x = e.f0 ∧ y = e.f1)) : Ev (fun k => slices_Index_2_int_2_int.f k l x y) (-1) := by
  unfold slices_Index_2_int_2_int.f
  have lp : ∀ (m : Nat) (i : Int), 0 ≤ i → i + m = l.length → Ev (fun k => slices_Index_2_int_2_int.l0 k l (l.length : Int) i x y) (-1) := by
    intro m
    induction m with
    | zero =>
      intro i h0 hi
      refine Ev.step (f := fun _ => some (-1)) (fun k => ?_) (Ev.now _)
      simp only [slices_Index_2_int_2_int.l0]; rw [if_neg (by omega)]
    | succ m ih =>
      intro i h0 hi
      refine Ev.step (f := fun k => slices_Index_2_int_2_int.l0 k l (l.length : Int) (i + 1) x y) (fun k => ?_) (ih (i + 1) (by omega) (by omega))
      have i1 : i < (l.length : Int) := by omega
      have hx := h _ (rdP_mem l i h0 i1)
      simp only [slices_Index_2_int_2_int.l0, if_pos i1, if_pos h0, w64 (x := i + 1) (by omega) (by omega)]
      rw [if_neg]
      simp only [Bool.and_eq_true, beq_iff_eq]
      exact hx
  exact lp l.length 0 (by omega) (by omega)
section
variable {n n' : Int} {p t p' t' : List Int} {b b' : List Bool}
def prodV (n : Int) (p t : List Int) (b : List Bool) (n' : Int) (p' t' : List Int) (b' : List Bool) : Bool := sysV n p t b && (sysV n' p' t' b' && decide (wrap64 (n * n') ≤ 16))
theorem specProd : Ev (fun k => spec_l1Product.f k n p t b n' p' t' b') (prodV n p t b n' p' t' b') := by
  unfold spec_l1Product.f prodV
  refine Ev.bind (specSystem n p t b) ?_
  cases sysV n p t b
  · simpa using Ev.now false
  · simp only [if_true, Bool.true_and]
    refine Ev.bind (specSystem n' p' t' b') ?_
    cases sysV n' p' t' b'
    · simpa using Ev.now false
    · simp only [if_true, Bool.true_and]; exact Ev.now _
theorem implProd : Ev (fun k => impl_isProduct.f k n p t b n' p' t' b') (prodV n p t b n' p' t' b') := by
  unfold impl_isProduct.f prodV
  refine Ev.bind (implSystem n p t b) ?_
  cases sysV n p t b
  · simpa using Ev.now false
  · simp only [if_true, Bool.true_and]
    refine Ev.bind (implSystem n' p' t' b') ?_
    cases sysV n' p' t' b'
    · simpa using Ev.now false
    · simp only [if_true, Bool.true_and]; exact Ev.now _
theorem prod_ok (h : prodV n p t b n' p' t' b' = true) : OK n p t b ∧ OK n' p' t' b' ∧ wrap64 (n * n') = n * n' ∧ ∃ x y : Nat, n = x ∧ n' = y ∧ x * y ≤ 16 ∧ n * n' = ((x * y : Nat) : Int) ∧ ∃ L, Two x y L := by
  unfold prodV at h
  rw [Bool.and_eq_true, Bool.and_eq_true, decide_eq_true_eq] at h
  have o := sysV_ok h.1
  have o' := sysV_ok h.2.1
  have l1 := o.lo; have l2 := o.hi; have l3 := o'.lo; have l4 := o'.hi
  obtain ⟨x, rfl⟩ := Int.eq_ofNat_of_zero_le (show 0 ≤ n by omega)
  obtain ⟨y, rfl⟩ := Int.eq_ofNat_of_zero_le (show 0 ≤ n' by omega)
  have e : (x : Int) * (y : Int) = ((x * y : Nat) : Int) := by push_cast; rfl
  have hm : x * y ≤ 16 * 16 := Nat.mul_le_mul (by omega) (by omega)
  have w : wrap64 ((x : Int) * (y : Int)) = (x : Int) * (y : Int) := w64 (by omega) (by omega)
  have h3 : x * y ≤ 16 := by have := h.2.2; rw [w, e] at this; omega
  exact ⟨o, o', w, x, y, rfl, rfl, h3, e, two_of (by omega) (by omega) h3⟩
end
end Go.Proofs.Ytcdmnofomoadlaa.Pure
end

section
namespace Go.Proofs.Ytcdmnofomoadlaa.P
open Go.RowKit Go.Proofs.YtcdmnofomoadlaaW.PrintWords Go.Proofs.YtcdmnofomoadlaaW.PrintLast Go.Proofs.YtcdmnofomoadlaaW.PrintMore
attribute [local go_sem] max2_int min2_int max_two min_two max_three min_three max_four min_four   -- for this text's walks alone
set_option linter.unusedVariables false
set_option linter.unusedSimpArgs false

/-! ### impl_ProductSystem: function 17 -/
def impl_ProductSystem.f (k : Nat) (a0_0 : Int) (l0_1 : List Int) (l0_2 : List Int) (l0_3 : List Bool) (a1_0 : Int) (l1_1 : List Int) (l1_2 : List Int) (l1_3 : List Bool) : Option (Int × List Int × List Int × List Bool × Bool) := (impl_isProduct.f k a0_0 l0_1 l0_2 l0_3 a1_0 l1_1 l1_2 l1_3).bind fun t270 => (if t270 = true then ((impl_pairs.f k a0_0 l0_1 l0_2 l0_3 a1_0 l1_1 l1_2 l1_3).bind fun t271 => ((impl_tabled.f k (t271.length : Int) (fun z0_ z1_ => impl_ProductSystem_2.f z0_ z1_ (fun z0_ z1_ => impl_ProductSystem_1.f k z0_ z1_ t271) a0_0 l0_1 l0_2 l0_3 t271 a1_0 l1_1 l1_2 l1_3) (fun z0_ z1_ => impl_ProductSystem_3.f z0_ z1_ (fun z0_ z1_ => impl_ProductSystem_1.f k z0_ z1_ t271) a0_0 l0_1 l0_2 l0_3 t271 a1_0 l1_1 l1_2 l1_3) (fun z0_ z1_ => impl_ProductSystem_4.f z0_ z1_ a0_0 l0_1 l0_2 l0_3 t271 a1_0 l1_1 l1_2 l1_3)).bind fun bt276 => (some (bt276.1, bt276.2.1, bt276.2.2.1, bt276.2.2.2, true)))) else (some (0, ([] : List Int), ([] : List Int), ([] : List Bool), false)))
set_option maxHeartbeats 8000000 in
set_option maxRecDepth 100000 in
theorem impl_ProductSystem.calls (k : Nat) (a0_0 : Int) (A0_1 : Option Addr) (c0_1 : Nat) (l0_1 : List Int) (A0_2 : Option Addr) (c0_2 : Nat) (l0_2 : List Int) (A0_3 : Option Addr) (c0_3 : Nat) (l0_3 : List Bool) (a1_0 : Int) (A1_1 : Option Addr) (c1_1 : Nat) (l1_1 : List Int) (A1_2 : Option Addr) (c1_2 : Nat) (l1_2 : List Int) (A1_3 : Option Addr) (c1_3 : Nat) (l1_3 : List Bool) (r1 : Int) (r2 : List Int) (r3 : List Int) (r4 : List Bool) (r5 : Bool) (w : World) (hr0_1 : Kd.C (Kd.int .i64) w A0_1 l0_1.length l0_1) (hc0_1 : l0_1.length ≤ c0_1) (hr0_2 : Kd.C (Kd.int .i64) w A0_2 l0_2.length l0_2) (hc0_2 : l0_2.length ≤ c0_2) (hr0_3 : Kd.C Kd.bool w A0_3 l0_3.length l0_3) (hc0_3 : l0_3.length ≤ c0_3) (hr1_1 : Kd.C (Kd.int .i64) w A1_1 l1_1.length l1_1) (hc1_1 : l1_1.length ≤ c1_1) (hr1_2 : Kd.C (Kd.int .i64) w A1_2 l1_2.length l1_2) (hc1_2 : l1_2.length ≤ c1_2) (hr1_3 : Kd.C Kd.bool w A1_3 l1_3.length l1_3) (hc1_3 : l1_3.length ≤ c1_3) (h : impl_ProductSystem.f k a0_0 l0_1 l0_2 l0_3 a1_0 l1_1 l1_2 l1_3 = some (r1, r2, r3, r4, r5)) :
  Calls Try.prog 17 #[.agg #[.int .i64 a0_0, .slice A0_1 l0_1.length c0_1, .slice A0_2 l0_2.length c0_2, .slice A0_3 l0_3.length c0_3], .agg #[.int .i64 a1_0, .slice A1_1 l1_1.length c1_1, .slice A1_2 l1_2.length c1_2, .slice A1_3 l1_3.length c1_3]] w fun e w' => ∃ v1_ v2_ v3_ : Value, e = .returned (.tuple #[.agg #[.int .i64 r1, v1_, v2_, v3_], .bool r5]) ∧ Kd.R (Kd.int .i64) 3 w' w.heap.size (fun k_ => some k_ ≠ (v2_ : Value).ownBlock) v1_ r2 ∧ Kd.R (Kd.int .i64) 3 w' w.heap.size (fun k_ => some k_ ≠ (v1_ : Value).ownBlock) v2_ r3 ∧ Kd.R Kd.bool 4 w' w.heap.size (fun _ => True) v3_ r4 ∧ Below w.heap.size w w' := by
 have hu27 := Try.underlying27
 have HR0_1 := sd_ hr0_1
 have HC0_1 := sd_ hc0_1
 clear hr0_1 hc0_1
 have HR0_2 := sd_ hr0_2
 have HC0_2 := sd_ hc0_2
 clear hr0_2 hc0_2
 have HR0_3 := sd_ hr0_3
 have HC0_3 := sd_ hc0_3
 clear hr0_3 hc0_3
 have HR1_1 := sd_ hr1_1
 have HC1_1 := sd_ hc1_1
 clear hr1_1 hc1_1
 have HR1_2 := sd_ hr1_2
 have HC1_2 := sd_ hc1_2
 clear hr1_2 hc1_2
 have HR1_3 := sd_ hr1_3
 have HC1_3 := sd_ hc1_3
 clear hr1_3 hc1_3
 have HB := sd_ (Below.refl w.heap.size w)
 have H : ((impl_isProduct.f k a0_0 l0_1 l0_2 l0_3 a1_0 l1_1 l1_2 l1_3).bind fun t270 => (if t270 = true then ((impl_pairs.f k a0_0 l0_1 l0_2 l0_3 a1_0 l1_1 l1_2 l1_3).bind fun t271 => ((impl_tabled.f k (t271.length : Int) (fun z0_ z1_ => impl_ProductSystem_2.f z0_ z1_ (fun z0_ z1_ => impl_ProductSystem_1.f k z0_ z1_ t271) a0_0 l0_1 l0_2 l0_3 t271 a1_0 l1_1 l1_2 l1_3) (fun z0_ z1_ => impl_ProductSystem_3.f z0_ z1_ (fun z0_ z1_ => impl_ProductSystem_1.f k z0_ z1_ t271) a0_0 l0_1 l0_2 l0_3 t271 a1_0 l1_1 l1_2 l1_3) (fun z0_ z1_ => impl_ProductSystem_4.f z0_ z1_ a0_0 l0_1 l0_2 l0_3 t271 a1_0 l1_1 l1_2 l1_3)).bind fun bt276 => (some (bt276.1, bt276.2.1, bt276.2.2.1, bt276.2.2.2, true)))) else (some (0, ([] : List Int), ([] : List Int), ([] : List Bool), false)))) = some (r1, r2, r3, r4, r5) := h
 clear h
 replace H := Option.bind_eq_some_iff.mp H
 obtain ⟨t270, A30, H⟩ := H
 try dsimp only at H
 have A3 := sd_ A30
 clear A30
 have HP4 := sd_ H
 clear H
 go_enter Try.func17, Try.ntmps17
 go_upto_if 14 with (first | ((with_reducible refine gate_dst (N := 2) rfl ?_); refine bx_ (N := 2) (cs := #[.int .i64 a0_0, .slice A0_1 l0_1.length c0_1, .slice A0_2 l0_2.length c0_2, .slice A0_3 l0_3.length c0_3]) (t := 27) ?_; intro gb267 hg w5 hbox hb; have BK267 := sd_ (hbox); have GW267 := sd_ (gs_ hg (bw0_ HB.out)); have GE267 := sd_ (gs_ hg (bw0_ HB.out)); replace HB := sd_ (below_step (bw0_ HB.out) hb); clear hb hbox hg) | ((with_reducible refine gate_dst (N := 3) rfl ?_); refine bx_ (N := 3) (cs := #[.int .i64 a1_0, .slice A1_1 l1_1.length c1_1, .slice A1_2 l1_2.length c1_2, .slice A1_3 l1_3.length c1_3]) (t := 27) ?_; intro gb268 hg w6 hbox hb; have BK268 := sd_ (hbox); have GW268 := sd_ (gs_ hg (bw1_ HB.out GE267.out)); have GE268 := sd_ (gs_ hg (bw1_ HB.out GE267.out)); replace HB := sd_ (below_step (bw1_ HB.out GE267.out) hb); have NB267_268 := sd_ (nl_ hg (bl_ BK267.out)); have NB268_267 := sd_ (ng_ hg (bl_ BK267.out)); replace BK267 := sd_ (bb_ BK267.out hb); clear hb hbox hg) | ((with_reducible refine gate_dst (N := 4) rfl ?_); refine bx_ (N := 4) (cs := #[.int .i64 0, .slice none 0 0, .slice none 0 0, .slice none 0 0]) (t := 27) ?_; intro gb269 hg w7 hbox hb; have BK269 := sd_ (hbox); have GW269 := sd_ (gs_ hg (bw2_ HB.out GE267.out GE268.out)); have GE269 := sd_ (gs_ hg (bw2_ HB.out GE267.out GE268.out)); replace HB := sd_ (below_step (bw2_ HB.out GE267.out GE268.out) hb); have NB267_269 := sd_ (nl_ hg (bl_ BK267.out)); have NB269_267 := sd_ (ng_ hg (bl_ BK267.out)); replace BK267 := sd_ (bb_ BK267.out hb); have NB268_269 := sd_ (nl_ hg (bl_ BK268.out)); have NB269_268 := sd_ (ng_ hg (bl_ BK268.out)); replace BK268 := sd_ (bb_ BK268.out hb); clear hb hbox hg; have hnb8 := NB267_268.out; have hnc8 := NB268_267.out; have hnb9 := NB267_269.out; have hnc9 := NB269_267.out; obtain ⟨hcz10_0, hcz10_1, hcz10_2, hcz10_3, hfz10_0, hfz10_1, hfz10_2, hfz10_3⟩ := bf4_ BK267.out; have hnb11 := NB268_269.out; have hnc11 := NB269_268.out; obtain ⟨hcz12_0, hcz12_1, hcz12_2, hcz12_3, hfz12_0, hfz12_1, hfz12_2, hfz12_3⟩ := bf4_ BK268.out) | ((with_reducible refine gate_callee (f := 62) rfl ?_); refine goesL_ (some 13) rfl rfl Try.func62 (by kernel_rfl) rfl #[.agg #[.int .i64 a0_0, .slice A0_1 l0_1.length c0_1, .slice A0_2 l0_2.length c0_2, .slice A0_3 l0_3.length c0_3], .agg #[.int .i64 a1_0, .slice A1_1 l1_1.length c1_1, .slice A1_2 l1_2.length c1_2, .slice A1_3 l1_3.length c1_3]] rfl la_ ?_; (with_reducible refine (impl_isProduct.calls k a0_0 _ _ l0_1 _ _ l0_2 _ _ l0_3 a1_0 _ _ l1_1 _ _ l1_2 _ _ l1_3 t270 _ (kc_ HR0_1.out HB.out) HC0_1.out (kc_ HR0_2.out HB.out) HC0_2.out (kc_ HR0_3.out HB.out) HC0_3.out (kc_ HR1_1.out HB.out) HC1_1.out (kc_ HR1_2.out HB.out) HC1_2.out (kc_ HR1_3.out HB.out) HC1_3.out A3.out).mono ?_); rintro e w13 ⟨rfl, hb⟩; refine ⟨_, rfl, ?_⟩; replace BK267 := sd_ (bb_ BK267.out hb); replace BK268 := sd_ (bb_ BK268.out hb); replace BK269 := sd_ (bb_ BK269.out hb); replace HB := sd_ (below_step (bw3_ HB.out GE267.out GE268.out GE269.out) hb); (try clear hb)))
 have H := HP4.out
 clear HP4
 by_cases c14 : t270 = true
 ·subst c14
  have H1 : ((impl_pairs.f k a0_0 l0_1 l0_2 l0_3 a1_0 l1_1 l1_2 l1_3).bind fun t271 => ((impl_tabled.f k (t271.length : Int) (fun z0_ z1_ => impl_ProductSystem_2.f z0_ z1_ (fun z0_ z1_ => impl_ProductSystem_1.f k z0_ z1_ t271) a0_0 l0_1 l0_2 l0_3 t271 a1_0 l1_1 l1_2 l1_3) (fun z0_ z1_ => impl_ProductSystem_3.f z0_ z1_ (fun z0_ z1_ => impl_ProductSystem_1.f k z0_ z1_ t271) a0_0 l0_1 l0_2 l0_3 t271 a1_0 l1_1 l1_2 l1_3) (fun z0_ z1_ => impl_ProductSystem_4.f z0_ z1_ a0_0 l0_1 l0_2 l0_3 t271 a1_0 l1_1 l1_2 l1_3)).bind fun bt276 => (some (bt276.1, bt276.2.1, bt276.2.2.1, bt276.2.2.2, true)))) = some (r1, r2, r3, r4, r5) := by rw [if_pos rfl] at H; exact H
  clear H
  have H := H1
  clear H1
  replace H := Option.bind_eq_some_iff.mp H
  obtain ⟨t271, A150, H⟩ := H
  try dsimp only at H
  have A15 := sd_ A150
  clear A150
  replace H := Option.bind_eq_some_iff.mp H
  obtain ⟨⟨t276, t277, t280, t283⟩, A160, H⟩ := H
  try dsimp only at H
  have A16 := sd_ A160
  clear A160
  simp only [Option.some.injEq, Prod.mk.injEq] at H
  obtain ⟨rfl, rfl, rfl, rfl, rfl⟩ := H
  have hnb17 := NB267_268.out
  have hnc17 := NB268_267.out
  have hnb18 := NB267_269.out
  have hnc18 := NB269_267.out
  obtain ⟨hcz19_0, hcz19_1, hcz19_2, hcz19_3, hfz19_0, hfz19_1, hfz19_2, hfz19_3⟩ := bf4_ BK267.out
  have hnb20 := NB268_269.out
  have hnc20 := NB269_268.out
  obtain ⟨hcz21_0, hcz21_1, hcz21_2, hcz21_3, hfz21_0, hfz21_1, hfz21_2, hfz21_3⟩ := bf4_ BK268.out
  go_wp2_with (first | ((with_reducible refine gate_callee (f := 63) rfl ?_); refine goesL_ (some 18) rfl rfl Try.func63 (by kernel_rfl) rfl #[.agg #[.int .i64 a0_0, .slice A0_1 l0_1.length c0_1, .slice A0_2 l0_2.length c0_2, .slice A0_3 l0_3.length c0_3], .agg #[.int .i64 a1_0, .slice A1_1 l1_1.length c1_1, .slice A1_2 l1_2.length c1_2, .slice A1_3 l1_3.length c1_3]] rfl la_ ?_; (with_reducible refine (impl_pairs.calls k a0_0 _ _ l0_1 _ _ l0_2 _ _ l0_3 a1_0 _ _ l1_1 _ _ l1_2 _ _ l1_3 t271 _ (kc_ HR0_1.out HB.out) HC0_1.out (kc_ HR0_2.out HB.out) HC0_2.out (kc_ HR0_3.out HB.out) HC0_3.out (kc_ HR1_1.out HB.out) HC1_1.out (kc_ HR1_2.out HB.out) HC1_2.out (kc_ HR1_3.out HB.out) HC1_3.out A15.out).mono ?_); rintro e w22 ⟨v272, rfl, ho0, hb⟩; refine ⟨_, rfl, ?_⟩; have HO273 := sd_ (Kd.R_lower ho0 (below_size (bw3_ HB.out GE267.out GE268.out GE269.out))); replace BK267 := sd_ (bb_ BK267.out hb); replace BK268 := sd_ (bb_ BK268.out hb); replace BK269 := sd_ (bb_ BK269.out hb); replace HB := sd_ (below_step (bw3_ HB.out GE267.out GE268.out GE269.out) hb); (try clear hb); (try clear ho0)) | ((with_reducible refine gate_dst (N := 6) rfl ?_); refine bx_ (N := 6) (cs := #[.slice none 0 0]) (t := 68) ?_; intro gb274 hg w23 hbox hb; replace HO273 := sd_ (Kd.R_below (ro_ HO273.out) hb); have BK274 := sd_ (hbox); have GW274 := sd_ (gs_ hg (bw3_ HB.out GE267.out GE268.out GE269.out)); have GE274 := sd_ (gs_ hg (bw3_ HB.out GE267.out GE268.out GE269.out)); replace HB := sd_ (below_step (bw3_ HB.out GE267.out GE268.out GE269.out) hb); have NB267_274 := sd_ (nl_ hg (bl_ BK267.out)); have NB274_267 := sd_ (ng_ hg (bl_ BK267.out)); replace BK267 := sd_ (bb_ BK267.out hb); have NB268_274 := sd_ (nl_ hg (bl_ BK268.out)); have NB274_268 := sd_ (ng_ hg (bl_ BK268.out)); replace BK268 := sd_ (bb_ BK268.out hb); have NB269_274 := sd_ (nl_ hg (bl_ BK269.out)); have NB274_269 := sd_ (ng_ hg (bl_ BK269.out)); replace BK269 := sd_ (bb_ BK269.out hb); clear hb hbox hg; obtain ⟨Ao24, co24, eo24⟩ := Kd.R_slice HO273.out; subst eo24; have hnb25 := NB274_267.out; have hnc25 := NB267_274.out; have hnb26 := NB274_268.out; have hnc26 := NB268_274.out; have hnb27 := NB274_269.out; have hnc27 := NB269_274.out; have hcz28_0 : w23.cell? ⟨gb274, 0, none⟩ = some (.slice none 0 0) := (blk_cell BK274.out 0).trans rfl; have hfz28_0 := blk_frozen BK274.out 0) | ((with_reducible refine gate_dst (N := 7) rfl ?_); refine bx_ (N := 7) (cs := #[.nilFunc]) (t := 67) ?_; intro gb275 hg w29 hbox hb; replace HO273 := sd_ (Kd.R_below (by (with_reducible repeat (first | apply Kd.R_alloc | apply Kd.R_drewN | apply Kd.R_drew)); exact (Kd.R_mono (Kd.R_far (p := ⟨gb274, 0, none⟩) (Kd.R_types HO273.out BK274.out (by decide)) (fun _ hk => hk.2) (.slice Ao24 t271.length co24)) (fun _ h_ => h_.1))) hb); have BK275 := sd_ (hbox); have GW275 := sd_ (gs_ hg (bw4_ HB.out GE267.out GE268.out GE269.out GE274.out)); have GE275 := sd_ (gs_ hg (bw4_ HB.out GE267.out GE268.out GE269.out GE274.out)); replace HB := sd_ (below_step (bw4_ HB.out GE267.out GE268.out GE269.out GE274.out) hb); have NB267_275 := sd_ ((by rw [hg]; exact Nat.ne_of_lt (blk_lt (g := gb267) (o := .cells #[.int .i64 a0_0, .slice A0_1 l0_1.length c0_1, .slice A0_2 l0_2.length c0_2, .slice A0_3 l0_3.length c0_3] 27 (0, 0)) (by (with_reducible repeat (first | refine blk_drewN ?_ _ | refine blk_drew ?_ | refine blk_alloc ?_ _)); refine blk_far ?_ NB267_274.out _; (with_reducible repeat (first | refine blk_drewN ?_ _ | refine blk_drew ?_ | refine blk_alloc ?_ _)); exact BK267.out)) : gb267 ≠ gb275)); have NB275_267 := sd_ ((by rw [hg]; exact Nat.ne_of_gt (blk_lt (g := gb267) (o := .cells #[.int .i64 a0_0, .slice A0_1 l0_1.length c0_1, .slice A0_2 l0_2.length c0_2, .slice A0_3 l0_3.length c0_3] 27 (0, 0)) (by (with_reducible repeat (first | refine blk_drewN ?_ _ | refine blk_drew ?_ | refine blk_alloc ?_ _)); refine blk_far ?_ NB267_274.out _; (with_reducible repeat (first | refine blk_drewN ?_ _ | refine blk_drew ?_ | refine blk_alloc ?_ _)); exact BK267.out)) : gb275 ≠ gb267)); replace BK267 := sd_ (blk_below (g := gb267) (o := .cells #[.int .i64 a0_0, .slice A0_1 l0_1.length c0_1, .slice A0_2 l0_2.length c0_2, .slice A0_3 l0_3.length c0_3] 27 (0, 0)) (by (with_reducible repeat (first | refine blk_drewN ?_ _ | refine blk_drew ?_ | refine blk_alloc ?_ _)); refine blk_far ?_ NB267_274.out _; (with_reducible repeat (first | refine blk_drewN ?_ _ | refine blk_drew ?_ | refine blk_alloc ?_ _)); exact BK267.out) hb); have NB268_275 := sd_ ((by rw [hg]; exact Nat.ne_of_lt (blk_lt (g := gb268) (o := .cells #[.int .i64 a1_0, .slice A1_1 l1_1.length c1_1, .slice A1_2 l1_2.length c1_2, .slice A1_3 l1_3.length c1_3] 27 (0, 0)) (by (with_reducible repeat (first | refine blk_drewN ?_ _ | refine blk_drew ?_ | refine blk_alloc ?_ _)); refine blk_far ?_ NB268_274.out _; (with_reducible repeat (first | refine blk_drewN ?_ _ | refine blk_drew ?_ | refine blk_alloc ?_ _)); exact BK268.out)) : gb268 ≠ gb275)); have NB275_268 := sd_ ((by rw [hg]; exact Nat.ne_of_gt (blk_lt (g := gb268) (o := .cells #[.int .i64 a1_0, .slice A1_1 l1_1.length c1_1, .slice A1_2 l1_2.length c1_2, .slice A1_3 l1_3.length c1_3] 27 (0, 0)) (by (with_reducible repeat (first | refine blk_drewN ?_ _ | refine blk_drew ?_ | refine blk_alloc ?_ _)); refine blk_far ?_ NB268_274.out _; (with_reducible repeat (first | refine blk_drewN ?_ _ | refine blk_drew ?_ | refine blk_alloc ?_ _)); exact BK268.out)) : gb275 ≠ gb268)); replace BK268 := sd_ (blk_below (g := gb268) (o := .cells #[.int .i64 a1_0, .slice A1_1 l1_1.length c1_1, .slice A1_2 l1_2.length c1_2, .slice A1_3 l1_3.length c1_3] 27 (0, 0)) (by (with_reducible repeat (first | refine blk_drewN ?_ _ | refine blk_drew ?_ | refine blk_alloc ?_ _)); refine blk_far ?_ NB268_274.out _; (with_reducible repeat (first | refine blk_drewN ?_ _ | refine blk_drew ?_ | refine blk_alloc ?_ _)); exact BK268.out) hb); have NB269_275 := sd_ ((by rw [hg]; exact Nat.ne_of_lt (blk_lt (g := gb269) (o := .cells #[.int .i64 0, .slice none 0 0, .slice none 0 0, .slice none 0 0] 27 (0, 0)) (by (with_reducible repeat (first | refine blk_drewN ?_ _ | refine blk_drew ?_ | refine blk_alloc ?_ _)); refine blk_far ?_ NB269_274.out _; (with_reducible repeat (first | refine blk_drewN ?_ _ | refine blk_drew ?_ | refine blk_alloc ?_ _)); exact BK269.out)) : gb269 ≠ gb275)); have NB275_269 := sd_ ((by rw [hg]; exact Nat.ne_of_gt (blk_lt (g := gb269) (o := .cells #[.int .i64 0, .slice none 0 0, .slice none 0 0, .slice none 0 0] 27 (0, 0)) (by (with_reducible repeat (first | refine blk_drewN ?_ _ | refine blk_drew ?_ | refine blk_alloc ?_ _)); refine blk_far ?_ NB269_274.out _; (with_reducible repeat (first | refine blk_drewN ?_ _ | refine blk_drew ?_ | refine blk_alloc ?_ _)); exact BK269.out)) : gb275 ≠ gb269)); replace BK269 := sd_ (blk_below (g := gb269) (o := .cells #[.int .i64 0, .slice none 0 0, .slice none 0 0, .slice none 0 0] 27 (0, 0)) (by (with_reducible repeat (first | refine blk_drewN ?_ _ | refine blk_drew ?_ | refine blk_alloc ?_ _)); refine blk_far ?_ NB269_274.out _; (with_reducible repeat (first | refine blk_drewN ?_ _ | refine blk_drew ?_ | refine blk_alloc ?_ _)); exact BK269.out) hb); have NB274_275 := sd_ ((by rw [hg]; exact Nat.ne_of_lt (blk_lt (g := gb274) (o := .cells #[.slice Ao24 t271.length co24] 68 (0, 0)) (by (with_reducible repeat (first | refine blk_drewN ?_ _ | refine blk_drew ?_ | refine blk_alloc ?_ _)); refine blk_put (cs := #[.slice none 0 0]) ?_ 0 _ rfl; (with_reducible repeat (first | refine blk_drewN ?_ _ | refine blk_drew ?_ | refine blk_alloc ?_ _)); exact BK274.out)) : gb274 ≠ gb275)); have NB275_274 := sd_ ((by rw [hg]; exact Nat.ne_of_gt (blk_lt (g := gb274) (o := .cells #[.slice Ao24 t271.length co24] 68 (0, 0)) (by (with_reducible repeat (first | refine blk_drewN ?_ _ | refine blk_drew ?_ | refine blk_alloc ?_ _)); refine blk_put (cs := #[.slice none 0 0]) ?_ 0 _ rfl; (with_reducible repeat (first | refine blk_drewN ?_ _ | refine blk_drew ?_ | refine blk_alloc ?_ _)); exact BK274.out)) : gb275 ≠ gb274)); replace BK274 := sd_ (blk_below (g := gb274) (o := .cells #[.slice Ao24 t271.length co24] 68 (0, 0)) (by (with_reducible repeat (first | refine blk_drewN ?_ _ | refine blk_drew ?_ | refine blk_alloc ?_ _)); refine blk_put (cs := #[.slice none 0 0]) ?_ 0 _ rfl; (with_reducible repeat (first | refine blk_drewN ?_ _ | refine blk_drew ?_ | refine blk_alloc ?_ _)); exact BK274.out) hb); clear hb hbox hg; have hnb30 := NB275_267.out; have hnc30 := NB267_275.out; have hnb31 := NB275_268.out; have hnc31 := NB268_275.out; have hnb32 := NB275_269.out; have hnc32 := NB269_275.out; have hnb33 := NB275_274.out; have hnc33 := NB274_275.out; have hcz34_0 : w29.cell? ⟨gb275, 0, none⟩ = some (.nilFunc) := (blk_cell BK275.out 0).trans rfl; have hfz34_0 := blk_frozen BK275.out 0; have hcz35_0 : w29.cell? ⟨gb274, 0, none⟩ = some (.slice Ao24 t271.length co24) := (blk_cell BK274.out 0).trans rfl; have hfz35_0 := blk_frozen BK274.out 0) | ((with_reducible refine gate_callee (f := 58) rfl ?_); refine goesL_ (some 28) rfl rfl Try.func58 (by kernel_rfl) rfl #[.int .i64 (t271.length : Int), .func (.func 66) #[] #[.pointer (some ⟨gb275, 0, none⟩), .pointer (some ⟨gb267, 0, none⟩), .pointer (some ⟨gb274, 0, none⟩), .pointer (some ⟨gb268, 0, none⟩)], .func (.func 68) #[] #[.pointer (some ⟨gb275, 0, none⟩), .pointer (some ⟨gb267, 0, none⟩), .pointer (some ⟨gb274, 0, none⟩), .pointer (some ⟨gb268, 0, none⟩)], .func (.func 70) #[] #[.pointer (some ⟨gb267, 0, none⟩), .pointer (some ⟨gb274, 0, none⟩), .pointer (some ⟨gb268, 0, none⟩)]] rfl la_ ?_; (with_reducible refine (impl_tabled.calls k (t271.length : Int) (fun z0_ z1_ => impl_ProductSystem_2.f z0_ z1_ (fun z0_ z1_ => impl_ProductSystem_1.f k z0_ z1_ t271) a0_0 l0_1 l0_2 l0_3 t271 a1_0 l1_1 l1_2 l1_3) 66 #[] #[.pointer (some ⟨gb275, 0, none⟩), .pointer (some ⟨gb267, 0, none⟩), .pointer (some ⟨gb274, 0, none⟩), .pointer (some ⟨gb268, 0, none⟩)] (fun z0_ z1_ => impl_ProductSystem_3.f z0_ z1_ (fun z0_ z1_ => impl_ProductSystem_1.f k z0_ z1_ t271) a0_0 l0_1 l0_2 l0_3 t271 a1_0 l1_1 l1_2 l1_3) 68 #[] #[.pointer (some ⟨gb275, 0, none⟩), .pointer (some ⟨gb267, 0, none⟩), .pointer (some ⟨gb274, 0, none⟩), .pointer (some ⟨gb268, 0, none⟩)] (fun z0_ z1_ => impl_ProductSystem_4.f z0_ z1_ a0_0 l0_1 l0_2 l0_3 t271 a1_0 l1_1 l1_2 l1_3) 70 #[] #[.pointer (some ⟨gb267, 0, none⟩), .pointer (some ⟨gb274, 0, none⟩), .pointer (some ⟨gb268, 0, none⟩)] t276 t277 t280 t283 _ ?side1 ?side2 ?side3 ?side4 ?side5 ?side6 A16.out).mono ?_); (case side1 => exact ⟨_, Try.func66, (by kernel_rfl), rfl⟩); (case side2 => intro z0_0 z1_0 rr0_0 w9_0  hb9_0 h9_0; refine calls_of_args (args' := #[.int .i64 z0_0, .int .i64 z1_0, .pointer (some ⟨gb275, 0, none⟩), .pointer (some ⟨gb267, 0, none⟩), .pointer (some ⟨gb274, 0, none⟩), .pointer (some ⟨gb268, 0, none⟩)]) (by first | rfl | simp) ?_; refine (impl_ProductSystem_2.calls z0_0 z1_0 gb275 (fun z0_ z1_ => impl_ProductSystem_1.f k z0_ z1_ t271) 64 #[] #[.pointer (some ⟨gb274, 0, none⟩)] gb267 a0_0 _ _ l0_1 _ _ l0_2 _ _ l0_3 gb274 _ _ t271 gb268 a1_0 _ _ l1_1 _ _ l1_2 _ _ l1_3 rr0_0 w9_0 (by exact ⟨_, Try.func64, (by kernel_rfl), rfl⟩) (by intro z0_1 z1_1 rr0_1 w9_1  hb9_1 h9_1; refine calls_of_args (args' := #[.int .i64 z0_1, .int .i64 z1_1, .pointer (some ⟨gb274, 0, none⟩)]) (by first | rfl | simp) ?_; refine (impl_ProductSystem_1.calls k z0_1 z1_1 gb274 _ _ t271 rr0_1 w9_1 (Kd.C_below (Kd.C_below (by refine (Kd.R_reads' (e := 71) (base := w.heap.size) (ok := fun k_ => True) (A := Ao24) (n := t271.length) (c := co24) ?_).2.2; exact (by (with_reducible repeat (first | apply Kd.R_alloc | apply Kd.R_drewN | apply Kd.R_drew)); exact (Kd.R_mono (Kd.R_far (p := ⟨gb275, 0, none⟩) (Kd.R_types HO273.out BK275.out (by decide)) (fun _ hk => hk.2) (.func (.func 64) #[] #[.pointer (some ⟨gb274, 0, none⟩)])) (fun _ h_ => h_.1)))) hb9_0) hb9_1) (by exact (Kd.R_reads' HO273.out).2.1) (blk_below (blk_below (by (with_reducible repeat (first | refine blk_drewN ?_ _ | refine blk_drew ?_ | refine blk_alloc ?_ _)); refine blk_far ?_ NB274_275.out _; (with_reducible repeat (first | refine blk_drewN ?_ _ | refine blk_drew ?_ | refine blk_alloc ?_ _)); exact BK274.out) hb9_0) hb9_1) h9_1).mono ?_; exact fun _ _ h_ => h_) (blk_below (by (with_reducible repeat (first | refine blk_drewN ?_ _ | refine blk_drew ?_ | refine blk_alloc ?_ _)); refine blk_put (cs := #[.nilFunc]) ?_ 0 _ rfl; (with_reducible repeat (first | refine blk_drewN ?_ _ | refine blk_drew ?_ | refine blk_alloc ?_ _)); exact BK275.out) hb9_0) (Kd.C_below (by exact Kd.C_below HR0_1.out (bw5_ HB.out GE267.out GE268.out GE269.out GE274.out GE275.out)) hb9_0) (by exact HC0_1.out) (Kd.C_below (by exact Kd.C_below HR0_2.out (bw5_ HB.out GE267.out GE268.out GE269.out GE274.out GE275.out)) hb9_0) (by exact HC0_2.out) (Kd.C_below (by exact Kd.C_below HR0_3.out (bw5_ HB.out GE267.out GE268.out GE269.out GE274.out GE275.out)) hb9_0) (by exact HC0_3.out) (blk_below (by (with_reducible repeat (first | refine blk_drewN ?_ _ | refine blk_drew ?_ | refine blk_alloc ?_ _)); refine blk_far ?_ NB267_275.out _; (with_reducible repeat (first | refine blk_drewN ?_ _ | refine blk_drew ?_ | refine blk_alloc ?_ _)); exact BK267.out) hb9_0) (Kd.C_below (by refine (Kd.R_reads' (e := 71) (base := w.heap.size) (ok := fun k_ => True) (A := Ao24) (n := t271.length) (c := co24) ?_).2.2; exact (by (with_reducible repeat (first | apply Kd.R_alloc | apply Kd.R_drewN | apply Kd.R_drew)); exact (Kd.R_mono (Kd.R_far (p := ⟨gb275, 0, none⟩) (Kd.R_types HO273.out BK275.out (by decide)) (fun _ hk => hk.2) (.func (.func 64) #[] #[.pointer (some ⟨gb274, 0, none⟩)])) (fun _ h_ => h_.1)))) hb9_0) (by exact (Kd.R_reads' HO273.out).2.1) (blk_below (by (with_reducible repeat (first | refine blk_drewN ?_ _ | refine blk_drew ?_ | refine blk_alloc ?_ _)); refine blk_far ?_ NB274_275.out _; (with_reducible repeat (first | refine blk_drewN ?_ _ | refine blk_drew ?_ | refine blk_alloc ?_ _)); exact BK274.out) hb9_0) (Kd.C_below (by exact Kd.C_below HR1_1.out (bw5_ HB.out GE267.out GE268.out GE269.out GE274.out GE275.out)) hb9_0) (by exact HC1_1.out) (Kd.C_below (by exact Kd.C_below HR1_2.out (bw5_ HB.out GE267.out GE268.out GE269.out GE274.out GE275.out)) hb9_0) (by exact HC1_2.out) (Kd.C_below (by exact Kd.C_below HR1_3.out (bw5_ HB.out GE267.out GE268.out GE269.out GE274.out GE275.out)) hb9_0) (by exact HC1_3.out) (blk_below (by (with_reducible repeat (first | refine blk_drewN ?_ _ | refine blk_drew ?_ | refine blk_alloc ?_ _)); refine blk_far ?_ NB268_275.out _; (with_reducible repeat (first | refine blk_drewN ?_ _ | refine blk_drew ?_ | refine blk_alloc ?_ _)); exact BK268.out) hb9_0) h9_0).mono ?_; exact fun _ _ h_ => h_); (case side3 => exact ⟨_, Try.func68, (by kernel_rfl), rfl⟩); (case side4 => intro z0_0 z1_0 rr0_0 w9_0  hb9_0 h9_0; refine calls_of_args (args' := #[.int .i64 z0_0, .int .i64 z1_0, .pointer (some ⟨gb275, 0, none⟩), .pointer (some ⟨gb267, 0, none⟩), .pointer (some ⟨gb274, 0, none⟩), .pointer (some ⟨gb268, 0, none⟩)]) (by first | rfl | simp) ?_; refine (impl_ProductSystem_3.calls z0_0 z1_0 gb275 (fun z0_ z1_ => impl_ProductSystem_1.f k z0_ z1_ t271) 64 #[] #[.pointer (some ⟨gb274, 0, none⟩)] gb267 a0_0 _ _ l0_1 _ _ l0_2 _ _ l0_3 gb274 _ _ t271 gb268 a1_0 _ _ l1_1 _ _ l1_2 _ _ l1_3 rr0_0 w9_0 (by exact ⟨_, Try.func64, (by kernel_rfl), rfl⟩) (by intro z0_1 z1_1 rr0_1 w9_1  hb9_1 h9_1; refine calls_of_args (args' := #[.int .i64 z0_1, .int .i64 z1_1, .pointer (some ⟨gb274, 0, none⟩)]) (by first | rfl | simp) ?_; refine (impl_ProductSystem_1.calls k z0_1 z1_1 gb274 _ _ t271 rr0_1 w9_1 (Kd.C_below (Kd.C_below (by refine (Kd.R_reads' (e := 71) (base := w.heap.size) (ok := fun k_ => True) (A := Ao24) (n := t271.length) (c := co24) ?_).2.2; exact (by (with_reducible repeat (first | apply Kd.R_alloc | apply Kd.R_drewN | apply Kd.R_drew)); exact (Kd.R_mono (Kd.R_far (p := ⟨gb275, 0, none⟩) (Kd.R_types HO273.out BK275.out (by decide)) (fun _ hk => hk.2) (.func (.func 64) #[] #[.pointer (some ⟨gb274, 0, none⟩)])) (fun _ h_ => h_.1)))) hb9_0) hb9_1) (by exact (Kd.R_reads' HO273.out).2.1) (blk_below (blk_below (by (with_reducible repeat (first | refine blk_drewN ?_ _ | refine blk_drew ?_ | refine blk_alloc ?_ _)); refine blk_far ?_ NB274_275.out _; (with_reducible repeat (first | refine blk_drewN ?_ _ | refine blk_drew ?_ | refine blk_alloc ?_ _)); exact BK274.out) hb9_0) hb9_1) h9_1).mono ?_; exact fun _ _ h_ => h_) (blk_below (by (with_reducible repeat (first | refine blk_drewN ?_ _ | refine blk_drew ?_ | refine blk_alloc ?_ _)); refine blk_put (cs := #[.nilFunc]) ?_ 0 _ rfl; (with_reducible repeat (first | refine blk_drewN ?_ _ | refine blk_drew ?_ | refine blk_alloc ?_ _)); exact BK275.out) hb9_0) (Kd.C_below (by exact Kd.C_below HR0_1.out (bw5_ HB.out GE267.out GE268.out GE269.out GE274.out GE275.out)) hb9_0) (by exact HC0_1.out) (Kd.C_below (by exact Kd.C_below HR0_2.out (bw5_ HB.out GE267.out GE268.out GE269.out GE274.out GE275.out)) hb9_0) (by exact HC0_2.out) (Kd.C_below (by exact Kd.C_below HR0_3.out (bw5_ HB.out GE267.out GE268.out GE269.out GE274.out GE275.out)) hb9_0) (by exact HC0_3.out) (blk_below (by (with_reducible repeat (first | refine blk_drewN ?_ _ | refine blk_drew ?_ | refine blk_alloc ?_ _)); refine blk_far ?_ NB267_275.out _; (with_reducible repeat (first | refine blk_drewN ?_ _ | refine blk_drew ?_ | refine blk_alloc ?_ _)); exact BK267.out) hb9_0) (Kd.C_below (by refine (Kd.R_reads' (e := 71) (base := w.heap.size) (ok := fun k_ => True) (A := Ao24) (n := t271.length) (c := co24) ?_).2.2; exact (by (with_reducible repeat (first | apply Kd.R_alloc | apply Kd.R_drewN | apply Kd.R_drew)); exact (Kd.R_mono (Kd.R_far (p := ⟨gb275, 0, none⟩) (Kd.R_types HO273.out BK275.out (by decide)) (fun _ hk => hk.2) (.func (.func 64) #[] #[.pointer (some ⟨gb274, 0, none⟩)])) (fun _ h_ => h_.1)))) hb9_0) (by exact (Kd.R_reads' HO273.out).2.1) (blk_below (by (with_reducible repeat (first | refine blk_drewN ?_ _ | refine blk_drew ?_ | refine blk_alloc ?_ _)); refine blk_far ?_ NB274_275.out _; (with_reducible repeat (first | refine blk_drewN ?_ _ | refine blk_drew ?_ | refine blk_alloc ?_ _)); exact BK274.out) hb9_0) (Kd.C_below (by exact Kd.C_below HR1_1.out (bw5_ HB.out GE267.out GE268.out GE269.out GE274.out GE275.out)) hb9_0) (by exact HC1_1.out) (Kd.C_below (by exact Kd.C_below HR1_2.out (bw5_ HB.out GE267.out GE268.out GE269.out GE274.out GE275.out)) hb9_0) (by exact HC1_2.out) (Kd.C_below (by exact Kd.C_below HR1_3.out (bw5_ HB.out GE267.out GE268.out GE269.out GE274.out GE275.out)) hb9_0) (by exact HC1_3.out) (blk_below (by (with_reducible repeat (first | refine blk_drewN ?_ _ | refine blk_drew ?_ | refine blk_alloc ?_ _)); refine blk_far ?_ NB268_275.out _; (with_reducible repeat (first | refine blk_drewN ?_ _ | refine blk_drew ?_ | refine blk_alloc ?_ _)); exact BK268.out) hb9_0) h9_0).mono ?_; exact fun _ _ h_ => h_); (case side5 => exact ⟨_, Try.func70, (by kernel_rfl), rfl⟩); (case side6 => intro z0_0 z1_0 rr0_0 w9_0  hb9_0 h9_0; refine calls_of_args (args' := #[.int .i64 z0_0, .int .i64 z1_0, .pointer (some ⟨gb267, 0, none⟩), .pointer (some ⟨gb274, 0, none⟩), .pointer (some ⟨gb268, 0, none⟩)]) (by first | rfl | simp) ?_; refine (impl_ProductSystem_4.calls z0_0 z1_0 gb267 a0_0 _ _ l0_1 _ _ l0_2 _ _ l0_3 gb274 _ _ t271 gb268 a1_0 _ _ l1_1 _ _ l1_2 _ _ l1_3 rr0_0 w9_0 (Kd.C_below (by exact Kd.C_below HR0_1.out (bw5_ HB.out GE267.out GE268.out GE269.out GE274.out GE275.out)) hb9_0) (by exact HC0_1.out) (Kd.C_below (by exact Kd.C_below HR0_2.out (bw5_ HB.out GE267.out GE268.out GE269.out GE274.out GE275.out)) hb9_0) (by exact HC0_2.out) (Kd.C_below (by exact Kd.C_below HR0_3.out (bw5_ HB.out GE267.out GE268.out GE269.out GE274.out GE275.out)) hb9_0) (by exact HC0_3.out) (blk_below (by (with_reducible repeat (first | refine blk_drewN ?_ _ | refine blk_drew ?_ | refine blk_alloc ?_ _)); refine blk_far ?_ NB267_275.out _; (with_reducible repeat (first | refine blk_drewN ?_ _ | refine blk_drew ?_ | refine blk_alloc ?_ _)); exact BK267.out) hb9_0) (Kd.C_below (by refine (Kd.R_reads' (e := 71) (base := w.heap.size) (ok := fun k_ => True) (A := Ao24) (n := t271.length) (c := co24) ?_).2.2; exact (by (with_reducible repeat (first | apply Kd.R_alloc | apply Kd.R_drewN | apply Kd.R_drew)); exact (Kd.R_mono (Kd.R_far (p := ⟨gb275, 0, none⟩) (Kd.R_types HO273.out BK275.out (by decide)) (fun _ hk => hk.2) (.func (.func 64) #[] #[.pointer (some ⟨gb274, 0, none⟩)])) (fun _ h_ => h_.1)))) hb9_0) (by exact (Kd.R_reads' HO273.out).2.1) (blk_below (by (with_reducible repeat (first | refine blk_drewN ?_ _ | refine blk_drew ?_ | refine blk_alloc ?_ _)); refine blk_far ?_ NB274_275.out _; (with_reducible repeat (first | refine blk_drewN ?_ _ | refine blk_drew ?_ | refine blk_alloc ?_ _)); exact BK274.out) hb9_0) (Kd.C_below (by exact Kd.C_below HR1_1.out (bw5_ HB.out GE267.out GE268.out GE269.out GE274.out GE275.out)) hb9_0) (by exact HC1_1.out) (Kd.C_below (by exact Kd.C_below HR1_2.out (bw5_ HB.out GE267.out GE268.out GE269.out GE274.out GE275.out)) hb9_0) (by exact HC1_2.out) (Kd.C_below (by exact Kd.C_below HR1_3.out (bw5_ HB.out GE267.out GE268.out GE269.out GE274.out GE275.out)) hb9_0) (by exact HC1_3.out) (blk_below (by (with_reducible repeat (first | refine blk_drewN ?_ _ | refine blk_drew ?_ | refine blk_alloc ?_ _)); refine blk_far ?_ NB268_275.out _; (with_reducible repeat (first | refine blk_drewN ?_ _ | refine blk_drew ?_ | refine blk_alloc ?_ _)); exact BK268.out) hb9_0) h9_0).mono ?_; exact fun _ _ h_ => h_); rintro e w36 ⟨v278, v281, v284, rfl, ho0, ho1, ho2, hb⟩; refine ⟨_, rfl, ?_⟩; replace HO273 := sd_ (Kd.R_below (by (with_reducible repeat (first | apply Kd.R_alloc | apply Kd.R_drewN | apply Kd.R_drew)); exact (Kd.R_mono (Kd.R_far (p := ⟨gb275, 0, none⟩) (Kd.R_types HO273.out BK275.out (by decide)) (fun _ hk => hk.2) (.func (.func 64) #[] #[.pointer (some ⟨gb274, 0, none⟩)])) (fun _ h_ => h_.1))) hb); have HO279 := sd_ (Kd.R_lower ho0 (below_size (bw5_ HB.out GE267.out GE268.out GE269.out GE274.out GE275.out))); have HO282 := sd_ (Kd.R_lower ho1 (below_size (bw5_ HB.out GE267.out GE268.out GE269.out GE274.out GE275.out))); have HO285 := sd_ (Kd.R_lower ho2 (below_size (bw5_ HB.out GE267.out GE268.out GE269.out GE274.out GE275.out))); replace BK267 := sd_ (blk_below (g := gb267) (o := .cells #[.int .i64 a0_0, .slice A0_1 l0_1.length c0_1, .slice A0_2 l0_2.length c0_2, .slice A0_3 l0_3.length c0_3] 27 (0, 0)) (by (with_reducible repeat (first | refine blk_drewN ?_ _ | refine blk_drew ?_ | refine blk_alloc ?_ _)); refine blk_far ?_ NB267_275.out _; (with_reducible repeat (first | refine blk_drewN ?_ _ | refine blk_drew ?_ | refine blk_alloc ?_ _)); exact BK267.out) hb); replace BK268 := sd_ (blk_below (g := gb268) (o := .cells #[.int .i64 a1_0, .slice A1_1 l1_1.length c1_1, .slice A1_2 l1_2.length c1_2, .slice A1_3 l1_3.length c1_3] 27 (0, 0)) (by (with_reducible repeat (first | refine blk_drewN ?_ _ | refine blk_drew ?_ | refine blk_alloc ?_ _)); refine blk_far ?_ NB268_275.out _; (with_reducible repeat (first | refine blk_drewN ?_ _ | refine blk_drew ?_ | refine blk_alloc ?_ _)); exact BK268.out) hb); replace BK269 := sd_ (blk_below (g := gb269) (o := .cells #[.int .i64 0, .slice none 0 0, .slice none 0 0, .slice none 0 0] 27 (0, 0)) (by (with_reducible repeat (first | refine blk_drewN ?_ _ | refine blk_drew ?_ | refine blk_alloc ?_ _)); refine blk_far ?_ NB269_275.out _; (with_reducible repeat (first | refine blk_drewN ?_ _ | refine blk_drew ?_ | refine blk_alloc ?_ _)); exact BK269.out) hb); replace BK274 := sd_ (blk_below (g := gb274) (o := .cells #[.slice Ao24 t271.length co24] 68 (0, 0)) (by (with_reducible repeat (first | refine blk_drewN ?_ _ | refine blk_drew ?_ | refine blk_alloc ?_ _)); refine blk_far ?_ NB274_275.out _; (with_reducible repeat (first | refine blk_drewN ?_ _ | refine blk_drew ?_ | refine blk_alloc ?_ _)); exact BK274.out) hb); replace BK275 := sd_ (blk_below (g := gb275) (o := .cells #[.func (.func 64) #[] #[.pointer (some ⟨gb274, 0, none⟩)]] 67 (0, 0)) (by (with_reducible repeat (first | refine blk_drewN ?_ _ | refine blk_drew ?_ | refine blk_alloc ?_ _)); refine blk_put (cs := #[.nilFunc]) ?_ 0 _ rfl; (with_reducible repeat (first | refine blk_drewN ?_ _ | refine blk_drew ?_ | refine blk_alloc ?_ _)); exact BK275.out) hb); replace HB := sd_ (below_step (bw5_ HB.out GE267.out GE268.out GE269.out GE274.out GE275.out) hb); (try clear hb); (try clear ho0); (try clear ho1); (try clear ho2); obtain ⟨hcz37_0, hcz37_1, hcz37_2, hcz37_3, hfz37_0, hfz37_1, hfz37_2, hfz37_3⟩ := bf4_ BK269.out; obtain ⟨Ao38, co38, eo38⟩ := Kd.R_slice HO279.out; subst eo38; obtain ⟨Ao39, co39, eo39⟩ := Kd.R_slice HO282.out; subst eo39; obtain ⟨Ao40, co40, eo40⟩ := Kd.R_slice HO285.out; subst eo40))
  refine bodyPost_ret (results_ct rfl _ _ gb269 27 #[.int .i64 t276, .slice Ao38 t277.length co38, .slice Ao39 t280.length co39, .slice Ao40 t283.length co40] (0, 0) _ rfl (by (with_reducible repeat (first | refine blk_drewN ?_ _ | refine blk_drew ?_ | refine blk_alloc ?_ _)); refine blk_put (cs := #[.int .i64 t276, .slice Ao38 t277.length co38, .slice Ao39 t280.length co39, .slice none 0 0]) ?_ 3 _ rfl; (with_reducible repeat (first | refine blk_drewN ?_ _ | refine blk_drew ?_ | refine blk_alloc ?_ _)); refine blk_put (cs := #[.int .i64 t276, .slice Ao38 t277.length co38, .slice none 0 0, .slice none 0 0]) ?_ 2 _ rfl; (with_reducible repeat (first | refine blk_drewN ?_ _ | refine blk_drew ?_ | refine blk_alloc ?_ _)); refine blk_put (cs := #[.int .i64 t276, .slice none 0 0, .slice none 0 0, .slice none 0 0]) ?_ 1 _ rfl; (with_reducible repeat (first | refine blk_drewN ?_ _ | refine blk_drew ?_ | refine blk_alloc ?_ _)); refine blk_put (cs := #[.int .i64 0, .slice none 0 0, .slice none 0 0, .slice none 0 0]) ?_ 0 _ rfl; (with_reducible repeat (first | refine blk_drewN ?_ _ | refine blk_drew ?_ | refine blk_alloc ?_ _)); exact BK269.out) Try.underlying27 rfl (by kernel_rfl)) rfl ?_
  exact ⟨_, _, _, an_, by (with_reducible repeat (first | apply Kd.R_alloc | apply Kd.R_drewN | apply Kd.R_drew)); exact Kd.R_mono (Kd.R_far (p := ⟨gb269, 3, none⟩) (Kd.R_far (p := ⟨gb269, 2, none⟩) (Kd.R_far (p := ⟨gb269, 1, none⟩) (Kd.R_far (p := ⟨gb269, 0, none⟩) (Kd.R_types HO279.out BK269.out (by decide)) (fun _ hk => hk.2) (.int .i64 t276)) (fun _ hk => hk.2) (.slice Ao38 t277.length co38)) (fun _ hk => hk.2) (.slice Ao39 t280.length co39)) (fun _ hk => hk.2) (.slice Ao40 t283.length co40)) (fun _ hk => hk.1), by (with_reducible repeat (first | apply Kd.R_alloc | apply Kd.R_drewN | apply Kd.R_drew)); exact Kd.R_mono (Kd.R_far (p := ⟨gb269, 3, none⟩) (Kd.R_far (p := ⟨gb269, 2, none⟩) (Kd.R_far (p := ⟨gb269, 1, none⟩) (Kd.R_far (p := ⟨gb269, 0, none⟩) (Kd.R_types HO282.out BK269.out (by decide)) (fun _ hk => hk.2) (.int .i64 t276)) (fun _ hk => hk.2) (.slice Ao38 t277.length co38)) (fun _ hk => hk.2) (.slice Ao39 t280.length co39)) (fun _ hk => hk.2) (.slice Ao40 t283.length co40)) (fun _ hk => hk.1), by (with_reducible repeat (first | apply Kd.R_alloc | apply Kd.R_drewN | apply Kd.R_drew)); exact Kd.R_mono (Kd.R_far (p := ⟨gb269, 3, none⟩) (Kd.R_far (p := ⟨gb269, 2, none⟩) (Kd.R_far (p := ⟨gb269, 1, none⟩) (Kd.R_far (p := ⟨gb269, 0, none⟩) (Kd.R_types HO285.out BK269.out (by decide)) (fun _ hk => hk.2) (.int .i64 t276)) (fun _ hk => hk.2) (.slice Ao38 t277.length co38)) (fun _ hk => hk.2) (.slice Ao39 t280.length co39)) (fun _ hk => hk.2) (.slice Ao40 t283.length co40)) (fun _ hk => trivial), bw5_ HB.out GE267.out GE268.out GE269.out GE274.out GE275.out⟩
 ·replace c14 := Bool.eq_false_iff.mpr c14
  subst c14
  have H1 : (some (0, ([] : List Int), ([] : List Int), ([] : List Bool), false)) = some (r1, r2, r3, r4, r5) := by rw [if_neg (show ¬ (false = true) by decide)] at H; exact H
  clear H
  have H := H1
  clear H1
  simp only [Option.some.injEq, Prod.mk.injEq] at H
  obtain ⟨rfl, rfl, rfl, rfl, rfl⟩ := H
  have hnb41 := NB269_267.out
  have hnc41 := NB267_269.out
  have hnb42 := NB269_268.out
  have hnc42 := NB268_269.out
  obtain ⟨hcz43_0, hcz43_1, hcz43_2, hcz43_3, hfz43_0, hfz43_1, hfz43_2, hfz43_3⟩ := bf4_ BK269.out
  go_wp2
  refine bodyPost_ret (results_ct rfl _ _ gb269 27 #[.int .i64 0, .slice none 0 0, .slice none 0 0, .slice none 0 0] (0, 0) _ rfl (by (with_reducible repeat (first | refine blk_drewN ?_ _ | refine blk_drew ?_ | refine blk_alloc ?_ _)); refine blk_put (cs := #[.int .i64 0, .slice none 0 0, .slice none 0 0, .slice none 0 0]) ?_ 3 _ rfl; (with_reducible repeat (first | refine blk_drewN ?_ _ | refine blk_drew ?_ | refine blk_alloc ?_ _)); refine blk_put (cs := #[.int .i64 0, .slice none 0 0, .slice none 0 0, .slice none 0 0]) ?_ 2 _ rfl; (with_reducible repeat (first | refine blk_drewN ?_ _ | refine blk_drew ?_ | refine blk_alloc ?_ _)); refine blk_put (cs := #[.int .i64 0, .slice none 0 0, .slice none 0 0, .slice none 0 0]) ?_ 1 _ rfl; (with_reducible repeat (first | refine blk_drewN ?_ _ | refine blk_drew ?_ | refine blk_alloc ?_ _)); refine blk_put (cs := #[.int .i64 0, .slice none 0 0, .slice none 0 0, .slice none 0 0]) ?_ 0 _ rfl; (with_reducible repeat (first | refine blk_drewN ?_ _ | refine blk_drew ?_ | refine blk_alloc ?_ _)); exact BK269.out) Try.underlying27 rfl (by kernel_rfl)) rfl ?_
  exact ⟨_, _, _, an_, by first | exact Kd.R_nil _ _ _ _ _ | exact Kd.N_nil _ _ _ _ _ | exact Kd.V_nil _ _ _ _ _ | exact Kd.Q_nil _ _ _ _ _ | exact Kd.S_nil _ _ _ _ _, by first | exact Kd.R_nil _ _ _ _ _ | exact Kd.N_nil _ _ _ _ _ | exact Kd.V_nil _ _ _ _ _ | exact Kd.Q_nil _ _ _ _ _ | exact Kd.S_nil _ _ _ _ _, by first | exact Kd.R_nil _ _ _ _ _ | exact Kd.N_nil _ _ _ _ _ | exact Kd.V_nil _ _ _ _ _ | exact Kd.Q_nil _ _ _ _ _ | exact Kd.S_nil _ _ _ _ _, bw3_ HB.out GE267.out GE268.out GE269.out⟩


/-! ### impl_PairGrades: function 19 -/
def impl_PairGrades.f (k : Nat) (a0_0 : Int) (l0_1 : List Int) (l0_2 : List Int) (l0_3 : List Bool) (a1_0 : Int) (l1_1 : List Int) (l1_2 : List Int) (l1_3 : List Bool) (a2 : Int) (a3 : Int) : Option (Int) := (impl_isProduct.f k a0_0 l0_1 l0_2 l0_3 a1_0 l1_1 l1_2 l1_3).bind fun t297 => (if t297 = true then ((impl_pairs.f k a0_0 l0_1 l0_2 l0_3 a1_0 l1_1 l1_2 l1_3).bind fun t298 => ((slices_Index_2_int_2_int.f k t298 a2 a3).bind fun t301 => (some t301))) else (some (-1)))
set_option maxHeartbeats 8000000 in
set_option maxRecDepth 100000 in
theorem impl_PairGrades.calls (k : Nat) (a0_0 : Int) (A0_1 : Option Addr) (c0_1 : Nat) (l0_1 : List Int) (A0_2 : Option Addr) (c0_2 : Nat) (l0_2 : List Int) (A0_3 : Option Addr) (c0_3 : Nat) (l0_3 : List Bool) (a1_0 : Int) (A1_1 : Option Addr) (c1_1 : Nat) (l1_1 : List Int) (A1_2 : Option Addr) (c1_2 : Nat) (l1_2 : List Int) (A1_3 : Option Addr) (c1_3 : Nat) (l1_3 : List Bool) (a2 : Int) (a3 : Int) (r : Int) (w : World) (hr0_1 : Kd.C (Kd.int .i64) w A0_1 l0_1.length l0_1) (hc0_1 : l0_1.length ≤ c0_1) (hr0_2 : Kd.C (Kd.int .i64) w A0_2 l0_2.length l0_2) (hc0_2 : l0_2.length ≤ c0_2) (hr0_3 : Kd.C Kd.bool w A0_3 l0_3.length l0_3) (hc0_3 : l0_3.length ≤ c0_3) (hr1_1 : Kd.C (Kd.int .i64) w A1_1 l1_1.length l1_1) (hc1_1 : l1_1.length ≤ c1_1) (hr1_2 : Kd.C (Kd.int .i64) w A1_2 l1_2.length l1_2) (hc1_2 : l1_2.length ≤ c1_2) (hr1_3 : Kd.C Kd.bool w A1_3 l1_3.length l1_3) (hc1_3 : l1_3.length ≤ c1_3) (h : impl_PairGrades.f k a0_0 l0_1 l0_2 l0_3 a1_0 l1_1 l1_2 l1_3 a2 a3 = some r) :
  Calls Try.prog 19 #[.agg #[.int .i64 a0_0, .slice A0_1 l0_1.length c0_1, .slice A0_2 l0_2.length c0_2, .slice A0_3 l0_3.length c0_3], .agg #[.int .i64 a1_0, .slice A1_1 l1_1.length c1_1, .slice A1_2 l1_2.length c1_2, .slice A1_3 l1_3.length c1_3], .int .i64 a2, .int .i64 a3] w fun e w' => e = .returned (.int .i64 r) ∧ Below w.heap.size w w' := by
 have hu27 := Try.underlying27
 have hu71 := Try.underlying71
 have HR0_1 := sd_ hr0_1
 have HC0_1 := sd_ hc0_1
 clear hr0_1 hc0_1
 have HR0_2 := sd_ hr0_2
 have HC0_2 := sd_ hc0_2
 clear hr0_2 hc0_2
 have HR0_3 := sd_ hr0_3
 have HC0_3 := sd_ hc0_3
 clear hr0_3 hc0_3
 have HR1_1 := sd_ hr1_1
 have HC1_1 := sd_ hc1_1
 clear hr1_1 hc1_1
 have HR1_2 := sd_ hr1_2
 have HC1_2 := sd_ hc1_2
 clear hr1_2 hc1_2
 have HR1_3 := sd_ hr1_3
 have HC1_3 := sd_ hc1_3
 clear hr1_3 hc1_3
 have HB := sd_ (Below.refl w.heap.size w)
 have H : ((impl_isProduct.f k a0_0 l0_1 l0_2 l0_3 a1_0 l1_1 l1_2 l1_3).bind fun t297 => (if t297 = true then ((impl_pairs.f k a0_0 l0_1 l0_2 l0_3 a1_0 l1_1 l1_2 l1_3).bind fun t298 => ((slices_Index_2_int_2_int.f k t298 a2 a3).bind fun t301 => (some t301))) else (some (-1)))) = some r := h
 clear h
 replace H := Option.bind_eq_some_iff.mp H
 obtain ⟨t297, A50, H⟩ := H
 try dsimp only at H
 have A5 := sd_ A50
 clear A50
 have HP6 := sd_ H
 clear H
 go_enter Try.func19, Try.ntmps19
 go_upto_if 12 with (first | ((with_reducible refine gate_dst (N := 4) rfl ?_); refine bx_ (N := 4) (cs := #[.int .i64 a0_0, .slice A0_1 l0_1.length c0_1, .slice A0_2 l0_2.length c0_2, .slice A0_3 l0_3.length c0_3]) (t := 27) ?_; intro gb295 hg w7 hbox hb; have BK295 := sd_ (hbox); have GW295 := sd_ (gs_ hg (bw0_ HB.out)); have GE295 := sd_ (gs_ hg (bw0_ HB.out)); replace HB := sd_ (below_step (bw0_ HB.out) hb); clear hb hbox hg) | ((with_reducible refine gate_dst (N := 5) rfl ?_); refine bx_ (N := 5) (cs := #[.int .i64 a1_0, .slice A1_1 l1_1.length c1_1, .slice A1_2 l1_2.length c1_2, .slice A1_3 l1_3.length c1_3]) (t := 27) ?_; intro gb296 hg w8 hbox hb; have BK296 := sd_ (hbox); have GW296 := sd_ (gs_ hg (bw1_ HB.out GE295.out)); have GE296 := sd_ (gs_ hg (bw1_ HB.out GE295.out)); replace HB := sd_ (below_step (bw1_ HB.out GE295.out) hb); have NB295_296 := sd_ (nl_ hg (bl_ BK295.out)); have NB296_295 := sd_ (ng_ hg (bl_ BK295.out)); replace BK295 := sd_ (bb_ BK295.out hb); clear hb hbox hg; have hnb9 := NB295_296.out; have hnc9 := NB296_295.out; obtain ⟨hcz10_0, hcz10_1, hcz10_2, hcz10_3, hfz10_0, hfz10_1, hfz10_2, hfz10_3⟩ := bf4_ BK295.out; obtain ⟨hcz11_0, hcz11_1, hcz11_2, hcz11_3, hfz11_0, hfz11_1, hfz11_2, hfz11_3⟩ := bf4_ BK296.out) | ((with_reducible refine gate_callee (f := 62) rfl ?_); refine goesL_ (some 11) rfl rfl Try.func62 (by kernel_rfl) rfl #[.agg #[.int .i64 a0_0, .slice A0_1 l0_1.length c0_1, .slice A0_2 l0_2.length c0_2, .slice A0_3 l0_3.length c0_3], .agg #[.int .i64 a1_0, .slice A1_1 l1_1.length c1_1, .slice A1_2 l1_2.length c1_2, .slice A1_3 l1_3.length c1_3]] rfl la_ ?_; (with_reducible refine (impl_isProduct.calls k a0_0 _ _ l0_1 _ _ l0_2 _ _ l0_3 a1_0 _ _ l1_1 _ _ l1_2 _ _ l1_3 t297 _ (kc_ HR0_1.out HB.out) HC0_1.out (kc_ HR0_2.out HB.out) HC0_2.out (kc_ HR0_3.out HB.out) HC0_3.out (kc_ HR1_1.out HB.out) HC1_1.out (kc_ HR1_2.out HB.out) HC1_2.out (kc_ HR1_3.out HB.out) HC1_3.out A5.out).mono ?_); rintro e w12 ⟨rfl, hb⟩; refine ⟨_, rfl, ?_⟩; replace BK295 := sd_ (bb_ BK295.out hb); replace BK296 := sd_ (bb_ BK296.out hb); replace HB := sd_ (below_step (bw2_ HB.out GE295.out GE296.out) hb); (try clear hb)))
 have H := HP6.out
 clear HP6
 by_cases c13 : t297 = true
 ·subst c13
  have H1 : ((impl_pairs.f k a0_0 l0_1 l0_2 l0_3 a1_0 l1_1 l1_2 l1_3).bind fun t298 => ((slices_Index_2_int_2_int.f k t298 a2 a3).bind fun t301 => (some t301))) = some r := by rw [if_pos rfl] at H; exact H
  clear H
  have H := H1
  clear H1
  replace H := Option.bind_eq_some_iff.mp H
  obtain ⟨t298, A140, H⟩ := H
  try dsimp only at H
  have A14 := sd_ A140
  clear A140
  replace H := Option.bind_eq_some_iff.mp H
  obtain ⟨t301, A150, H⟩ := H
  try dsimp only at H
  have A15 := sd_ A150
  clear A150
  obtain rfl := Option.some.inj H
  have hnb16 := NB295_296.out
  have hnc16 := NB296_295.out
  obtain ⟨hcz17_0, hcz17_1, hcz17_2, hcz17_3, hfz17_0, hfz17_1, hfz17_2, hfz17_3⟩ := bf4_ BK295.out
  obtain ⟨hcz18_0, hcz18_1, hcz18_2, hcz18_3, hfz18_0, hfz18_1, hfz18_2, hfz18_3⟩ := bf4_ BK296.out
  go_wp2_with (first | ((with_reducible refine gate_callee (f := 63) rfl ?_); refine goesL_ (some 15) rfl rfl Try.func63 (by kernel_rfl) rfl #[.agg #[.int .i64 a0_0, .slice A0_1 l0_1.length c0_1, .slice A0_2 l0_2.length c0_2, .slice A0_3 l0_3.length c0_3], .agg #[.int .i64 a1_0, .slice A1_1 l1_1.length c1_1, .slice A1_2 l1_2.length c1_2, .slice A1_3 l1_3.length c1_3]] rfl la_ ?_; (with_reducible refine (impl_pairs.calls k a0_0 _ _ l0_1 _ _ l0_2 _ _ l0_3 a1_0 _ _ l1_1 _ _ l1_2 _ _ l1_3 t298 _ (kc_ HR0_1.out HB.out) HC0_1.out (kc_ HR0_2.out HB.out) HC0_2.out (kc_ HR0_3.out HB.out) HC0_3.out (kc_ HR1_1.out HB.out) HC1_1.out (kc_ HR1_2.out HB.out) HC1_2.out (kc_ HR1_3.out HB.out) HC1_3.out A14.out).mono ?_); rintro e w19 ⟨v299, rfl, ho0, hb⟩; refine ⟨_, rfl, ?_⟩; have HO300 := sd_ (Kd.R_lower ho0 (below_size (bw2_ HB.out GE295.out GE296.out))); replace BK295 := sd_ (bb_ BK295.out hb); replace BK296 := sd_ (bb_ BK296.out hb); replace HB := sd_ (below_step (bw2_ HB.out GE295.out GE296.out) hb); (try clear hb); (try clear ho0); obtain ⟨Ao20, co20, eo20⟩ := Kd.R_slice HO300.out; subst eo20) | ((with_reducible refine gate_callee (f := 65) rfl ?_); refine goesL_ (some 19) rfl rfl Try.func65 (by kernel_rfl) rfl #[.slice Ao20 t298.length co20, .agg #[.int .i64 a2, .int .i64 a3]] rfl la_ ?_; (with_reducible refine (slices_Index_2_int_2_int.calls k _ _ t298 a2 a3 t301 _ ?side1 ?side2 A15.out).mono ?_); (case side1 => exact kp_ (Kd.R_reads' HO300.out).2.2); (case side2 => exact (Kd.R_reads' HO300.out).2.1); rintro e w21 ⟨rfl, hb⟩; refine ⟨_, rfl, ?_⟩; replace HO300 := sd_ (Kd.R_below (ro_ HO300.out) hb); replace BK295 := sd_ (bb_ BK295.out hb); replace BK296 := sd_ (bb_ BK296.out hb); replace HB := sd_ (below_step (bw2_ HB.out GE295.out GE296.out) hb); (try clear hb)))
  go_ret
  exact ⟨an_, bw2_ HB.out GE295.out GE296.out⟩
 ·replace c13 := Bool.eq_false_iff.mpr c13
  subst c13
  have H1 : (some (-1)) = some r := by rw [if_neg (show ¬ (false = true) by decide)] at H; exact H
  clear H
  have H := H1
  clear H1
  obtain rfl := Option.some.inj H
  go_wp2
  go_ret
  exact ⟨an_, bw2_ HB.out GE295.out GE296.out⟩

end Go.Proofs.Ytcdmnofomoadlaa.P
end
