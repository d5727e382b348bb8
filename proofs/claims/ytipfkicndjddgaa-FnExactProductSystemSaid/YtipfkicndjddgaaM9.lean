-- Several texts in one (wip/tools/merge.py).
import Derived.Test.YtipfkicndjddgaaM1
import Derived.Test.YtipfkicndjddgaaPf77
import Derived.Test.YtipfkicndjddgaaPf45
import Derived.Test.YtipfkicndjddgaaM4
import Derived.Test.YtipfkicndjddgaaM2
import Derived.Test.YtipfkicndjddgaaM3
import Derived.Test.YtipfkicndjddgaaM8
import Derived.Test.YtipfkicndjddgaaB1
import Derived.KernelRfl
section
namespace Go.Proofs.Ytipfkicndjddgaa.P
open Go.RowKit Go.Proofs.YtipfkicndjddgaaW.PrintWords Go.Proofs.YtipfkicndjddgaaW.PrintLast Go.Proofs.YtipfkicndjddgaaW.PrintMore
attribute [local go_sem] max2_int min2_int max_two min_two max_three min_three max_four min_four   -- for this text's walks alone
set_option linter.unusedVariables false
set_option linter.unusedSimpArgs false

/-! ### impl_isProduct: function 44 -/
def impl_isProduct.f (k : Nat) (a0_0 : Int) (l0_1 : List Int) (l0_2 : List Int) (l0_3 : List Bool) (a1_0 : Int) (l1_1 : List Int) (l1_2 : List Int) (l1_3 : List Bool) : Option (Bool) := (impl_IsSystem.f k a0_0 l0_1 l0_2 l0_3).bind fun t297 => (if t297 = true then ((impl_IsSystem.f k a1_0 l1_1 l1_2 l1_3).bind fun t298 => (if t298 = true then (some (decide ((wrap64 (a0_0 * a1_0)) ≤ 16))) else (some false))) else (some false))
set_option maxHeartbeats 8000000 in
set_option maxRecDepth 100000 in
theorem impl_isProduct.calls (k : Nat) (a0_0 : Int) (A0_1 : Option Addr) (c0_1 : Nat) (l0_1 : List Int) (A0_2 : Option Addr) (c0_2 : Nat) (l0_2 : List Int) (A0_3 : Option Addr) (c0_3 : Nat) (l0_3 : List Bool) (a1_0 : Int) (A1_1 : Option Addr) (c1_1 : Nat) (l1_1 : List Int) (A1_2 : Option Addr) (c1_2 : Nat) (l1_2 : List Int) (A1_3 : Option Addr) (c1_3 : Nat) (l1_3 : List Bool) (r : Bool) (w : World) (hr0_1 : Kd.C (Kd.int .i64) w A0_1 l0_1.length l0_1) (hc0_1 : l0_1.length ≤ c0_1) (hr0_2 : Kd.C (Kd.int .i64) w A0_2 l0_2.length l0_2) (hc0_2 : l0_2.length ≤ c0_2) (hr0_3 : Kd.C Kd.bool w A0_3 l0_3.length l0_3) (hc0_3 : l0_3.length ≤ c0_3) (hr1_1 : Kd.C (Kd.int .i64) w A1_1 l1_1.length l1_1) (hc1_1 : l1_1.length ≤ c1_1) (hr1_2 : Kd.C (Kd.int .i64) w A1_2 l1_2.length l1_2) (hc1_2 : l1_2.length ≤ c1_2) (hr1_3 : Kd.C Kd.bool w A1_3 l1_3.length l1_3) (hc1_3 : l1_3.length ≤ c1_3) (h : impl_isProduct.f k a0_0 l0_1 l0_2 l0_3 a1_0 l1_1 l1_2 l1_3 = some r) :
  Calls Try.prog 44 #[.agg #[.int .i64 a0_0, .slice A0_1 l0_1.length c0_1, .slice A0_2 l0_2.length c0_2, .slice A0_3 l0_3.length c0_3], .agg #[.int .i64 a1_0, .slice A1_1 l1_1.length c1_1, .slice A1_2 l1_2.length c1_2, .slice A1_3 l1_3.length c1_3]] w fun e w' => e = .returned (.bool r) ∧ Below w.heap.size w w' := by
 have hu27 := Try.underlying27
 have HR0_1 := sd_ hr0_1
 have HC0_1 := sd_ hc0_1
 clear hr0_1 hc0_1
 have HR0_2 := sd_ hr0_2
 have HC0_2 := sd_ hc0_2
 clear hr0_2 hc0_2
 have HR0_3 := sd_ hr0_3
 have HC0_3 := sd_ hc0_3
 clear hr0_3 hc0_3
 have HR1_1 := sd_ hr1_1
 have HC1_1 := sd_ hc1_1
 clear hr1_1 hc1_1
 have HR1_2 := sd_ hr1_2
 have HC1_2 := sd_ hc1_2
 clear hr1_2 hc1_2
 have HR1_3 := sd_ hr1_3
 have HC1_3 := sd_ hc1_3
 clear hr1_3 hc1_3
 have HB := sd_ (Below.refl w.heap.size w)
 have H : ((impl_IsSystem.f k a0_0 l0_1 l0_2 l0_3).bind fun t297 => (if t297 = true then ((impl_IsSystem.f k a1_0 l1_1 l1_2 l1_3).bind fun t298 => (if t298 = true then (some (decide ((wrap64 (a0_0 * a1_0)) ≤ 16))) else (some false))) else (some false))) = some r := h
 clear h
 replace H := Option.bind_eq_some_iff.mp H
 obtain ⟨t297, A30, H⟩ := H
 try dsimp only at H
 have A3 := sd_ A30
 clear A30
 by_cases c4 : t297 = true
 ·subst c4
  have H1 : ((impl_IsSystem.f k a1_0 l1_1 l1_2 l1_3).bind fun t298 => (if t298 = true then (some (decide ((wrap64 (a0_0 * a1_0)) ≤ 16))) else (some false))) = some r := by rw [if_pos rfl] at H; exact H
  clear H
  have H := H1
  clear H1
  replace H := Option.bind_eq_some_iff.mp H
  obtain ⟨t298, A50, H⟩ := H
  try dsimp only at H
  have A5 := sd_ A50
  clear A50
  by_cases c6 : t298 = true
  ·subst c6
   have H1 : (some (decide ((wrap64 (a0_0 * a1_0)) ≤ 16))) = some r := by rw [if_pos rfl] at H; exact H
   clear H
   have H := H1
   clear H1
   obtain rfl := Option.some.inj H
   go_enter Try.func44, Try.ntmps44
   go_wp2_with (first | ((with_reducible refine gate_dst (N := 2) rfl ?_); refine bx_ (N := 2) (cs := #[.int .i64 a0_0, .slice A0_1 l0_1.length c0_1, .slice A0_2 l0_2.length c0_2, .slice A0_3 l0_3.length c0_3]) (t := 27) ?_; intro gb295 hg w7 hbox hb; have BK295 := sd_ (hbox); have GW295 := sd_ (gs_ hg (bw0_ HB.out)); have GE295 := sd_ (gs_ hg (bw0_ HB.out)); replace HB := sd_ (below_step (bw0_ HB.out) hb); clear hb hbox hg) | ((with_reducible refine gate_dst (N := 3) rfl ?_); refine bx_ (N := 3) (cs := #[.int .i64 a1_0, .slice A1_1 l1_1.length c1_1, .slice A1_2 l1_2.length c1_2, .slice A1_3 l1_3.length c1_3]) (t := 27) ?_; intro gb296 hg w8 hbox hb; have BK296 := sd_ (hbox); have GW296 := sd_ (gs_ hg (bw1_ HB.out GE295.out)); have GE296 := sd_ (gs_ hg (bw1_ HB.out GE295.out)); replace HB := sd_ (below_step (bw1_ HB.out GE295.out) hb); have NB295_296 := sd_ (nl_ hg (bl_ BK295.out)); have NB296_295 := sd_ (ng_ hg (bl_ BK295.out)); replace BK295 := sd_ (bb_ BK295.out hb); clear hb hbox hg; have hnb9 := NB295_296.out; have hnc9 := NB296_295.out; obtain ⟨hcz10_0, hcz10_1, hcz10_2, hcz10_3, hfz10_0, hfz10_1, hfz10_2, hfz10_3⟩ := bf4_ BK295.out) | ((with_reducible refine gate_callee (f := 77) rfl ?_); refine goesL_ (some 6) rfl rfl Try.func77 (by kernel_rfl) rfl #[.agg #[.int .i64 a0_0, .slice A0_1 l0_1.length c0_1, .slice A0_2 l0_2.length c0_2, .slice A0_3 l0_3.length c0_3]] rfl la_ ?_; (with_reducible refine (impl_IsSystem.calls k a0_0 _ _ l0_1 _ _ l0_2 _ _ l0_3 true _ (kc_ HR0_1.out HB.out) HC0_1.out (kc_ HR0_2.out HB.out) HC0_2.out (kc_ HR0_3.out HB.out) HC0_3.out A3.out).mono ?_); rintro e w11 ⟨rfl, hb⟩; refine ⟨_, rfl, ?_⟩; replace BK295 := sd_ (bb_ BK295.out hb); replace BK296 := sd_ (bb_ BK296.out hb); replace HB := sd_ (below_step (bw2_ HB.out GE295.out GE296.out) hb); (try clear hb); obtain ⟨hcz12_0, hcz12_1, hcz12_2, hcz12_3, hfz12_0, hfz12_1, hfz12_2, hfz12_3⟩ := bf4_ BK296.out) | (go_at_call 77; (with_reducible refine (impl_IsSystem.calls k a1_0 _ _ l1_1 _ _ l1_2 _ _ l1_3 true _ (kc_ HR1_1.out HB.out) HC1_1.out (kc_ HR1_2.out HB.out) HC1_2.out (kc_ HR1_3.out HB.out) HC1_3.out A5.out).mono ?_); rintro e w13 ⟨rfl, hb⟩; replace BK295 := sd_ (bb_ BK295.out hb); replace BK296 := sd_ (bb_ BK296.out hb); replace HB := sd_ (below_step (bw2_ HB.out GE295.out GE296.out) hb); (try clear hb); obtain ⟨hcz14_0, hcz14_1, hcz14_2, hcz14_3, hfz14_0, hfz14_1, hfz14_2, hfz14_3⟩ := bf4_ BK295.out; obtain ⟨hcz15_0, hcz15_1, hcz15_2, hcz15_3, hfz15_0, hfz15_1, hfz15_2, hfz15_3⟩ := bf4_ BK296.out))
   go_ret
   exact ⟨an_, bw2_ HB.out GE295.out GE296.out⟩
  replace c6 := Bool.eq_false_iff.mpr c6
  subst c6
  have H1 : (some false) = some r := by rw [if_neg (show ¬ (false = true) by decide)] at H; exact H
  clear H
  have H := H1
  clear H1
  obtain rfl := Option.some.inj H
  go_enter Try.func44, Try.ntmps44
  go_wp2_with (first | ((with_reducible refine gate_dst (N := 2) rfl ?_); refine bx_ (N := 2) (cs := #[.int .i64 a0_0, .slice A0_1 l0_1.length c0_1, .slice A0_2 l0_2.length c0_2, .slice A0_3 l0_3.length c0_3]) (t := 27) ?_; intro gb295 hg w16 hbox hb; have BK295 := sd_ (hbox); have GW295 := sd_ (gs_ hg (bw0_ HB.out)); have GE295 := sd_ (gs_ hg (bw0_ HB.out)); replace HB := sd_ (below_step (bw0_ HB.out) hb); clear hb hbox hg) | ((with_reducible refine gate_dst (N := 3) rfl ?_); refine bx_ (N := 3) (cs := #[.int .i64 a1_0, .slice A1_1 l1_1.length c1_1, .slice A1_2 l1_2.length c1_2, .slice A1_3 l1_3.length c1_3]) (t := 27) ?_; intro gb296 hg w17 hbox hb; have BK296 := sd_ (hbox); have GW296 := sd_ (gs_ hg (bw1_ HB.out GE295.out)); have GE296 := sd_ (gs_ hg (bw1_ HB.out GE295.out)); replace HB := sd_ (below_step (bw1_ HB.out GE295.out) hb); have NB295_296 := sd_ (nl_ hg (bl_ BK295.out)); have NB296_295 := sd_ (ng_ hg (bl_ BK295.out)); replace BK295 := sd_ (bb_ BK295.out hb); clear hb hbox hg; have hnb18 := NB295_296.out; have hnc18 := NB296_295.out; obtain ⟨hcz19_0, hcz19_1, hcz19_2, hcz19_3, hfz19_0, hfz19_1, hfz19_2, hfz19_3⟩ := bf4_ BK295.out) | ((with_reducible refine gate_callee (f := 77) rfl ?_); refine goesL_ (some 6) rfl rfl Try.func77 (by kernel_rfl) rfl #[.agg #[.int .i64 a0_0, .slice A0_1 l0_1.length c0_1, .slice A0_2 l0_2.length c0_2, .slice A0_3 l0_3.length c0_3]] rfl la_ ?_; (with_reducible refine (impl_IsSystem.calls k a0_0 _ _ l0_1 _ _ l0_2 _ _ l0_3 true _ (kc_ HR0_1.out HB.out) HC0_1.out (kc_ HR0_2.out HB.out) HC0_2.out (kc_ HR0_3.out HB.out) HC0_3.out A3.out).mono ?_); rintro e w20 ⟨rfl, hb⟩; refine ⟨_, rfl, ?_⟩; replace BK295 := sd_ (bb_ BK295.out hb); replace BK296 := sd_ (bb_ BK296.out hb); replace HB := sd_ (below_step (bw2_ HB.out GE295.out GE296.out) hb); (try clear hb); obtain ⟨hcz21_0, hcz21_1, hcz21_2, hcz21_3, hfz21_0, hfz21_1, hfz21_2, hfz21_3⟩ := bf4_ BK296.out) | (go_at_call 77; (with_reducible refine (impl_IsSystem.calls k a1_0 _ _ l1_1 _ _ l1_2 _ _ l1_3 false _ (kc_ HR1_1.out HB.out) HC1_1.out (kc_ HR1_2.out HB.out) HC1_2.out (kc_ HR1_3.out HB.out) HC1_3.out A5.out).mono ?_); rintro e w22 ⟨rfl, hb⟩; replace BK295 := sd_ (bb_ BK295.out hb); replace BK296 := sd_ (bb_ BK296.out hb); replace HB := sd_ (below_step (bw2_ HB.out GE295.out GE296.out) hb); (try clear hb)))
  go_ret
  exact ⟨an_, bw2_ HB.out GE295.out GE296.out⟩
 replace c4 := Bool.eq_false_iff.mpr c4
 subst c4
 have H1 : (some false) = some r := by rw [if_neg (show ¬ (false = true) by decide)] at H; exact H
 clear H
 have H := H1
 clear H1
 obtain rfl := Option.some.inj H
 go_enter Try.func44, Try.ntmps44
 go_wp2_with (first | ((with_reducible refine gate_dst (N := 2) rfl ?_); refine bx_ (N := 2) (cs := #[.int .i64 a0_0, .slice A0_1 l0_1.length c0_1, .slice A0_2 l0_2.length c0_2, .slice A0_3 l0_3.length c0_3]) (t := 27) ?_; intro gb295 hg w23 hbox hb; have BK295 := sd_ (hbox); have GW295 := sd_ (gs_ hg (bw0_ HB.out)); have GE295 := sd_ (gs_ hg (bw0_ HB.out)); replace HB := sd_ (below_step (bw0_ HB.out) hb); clear hb hbox hg) | ((with_reducible refine gate_dst (N := 3) rfl ?_); refine bx_ (N := 3) (cs := #[.int .i64 a1_0, .slice A1_1 l1_1.length c1_1, .slice A1_2 l1_2.length c1_2, .slice A1_3 l1_3.length c1_3]) (t := 27) ?_; intro gb296 hg w24 hbox hb; have BK296 := sd_ (hbox); have GW296 := sd_ (gs_ hg (bw1_ HB.out GE295.out)); have GE296 := sd_ (gs_ hg (bw1_ HB.out GE295.out)); replace HB := sd_ (below_step (bw1_ HB.out GE295.out) hb); have NB295_296 := sd_ (nl_ hg (bl_ BK295.out)); have NB296_295 := sd_ (ng_ hg (bl_ BK295.out)); replace BK295 := sd_ (bb_ BK295.out hb); clear hb hbox hg; have hnb25 := NB295_296.out; have hnc25 := NB296_295.out; obtain ⟨hcz26_0, hcz26_1, hcz26_2, hcz26_3, hfz26_0, hfz26_1, hfz26_2, hfz26_3⟩ := bf4_ BK295.out) | ((with_reducible refine gate_callee (f := 77) rfl ?_); refine goesL_ (some 6) rfl rfl Try.func77 (by kernel_rfl) rfl #[.agg #[.int .i64 a0_0, .slice A0_1 l0_1.length c0_1, .slice A0_2 l0_2.length c0_2, .slice A0_3 l0_3.length c0_3]] rfl la_ ?_; (with_reducible refine (impl_IsSystem.calls k a0_0 _ _ l0_1 _ _ l0_2 _ _ l0_3 false _ (kc_ HR0_1.out HB.out) HC0_1.out (kc_ HR0_2.out HB.out) HC0_2.out (kc_ HR0_3.out HB.out) HC0_3.out A3.out).mono ?_); rintro e w27 ⟨rfl, hb⟩; refine ⟨_, rfl, ?_⟩; replace BK295 := sd_ (bb_ BK295.out hb); replace BK296 := sd_ (bb_ BK296.out hb); replace HB := sd_ (below_step (bw2_ HB.out GE295.out GE296.out) hb); (try clear hb)))
 go_ret
 exact ⟨an_, bw2_ HB.out GE295.out GE296.out⟩

end Go.Proofs.Ytipfkicndjddgaa.P
end

section
/- Pairs of grades: the program's list of them is the reference's count. -/
set_option linter.unusedSimpArgs false
set_option linter.unusedVariables false
namespace Go.Proofs.Ytipfkicndjddgaa.Pure
open Go.RowKit Go.Proofs.Ytipfkicndjddgaa.P Go.Proofs.YtipfkicndjddgaaW.PrintWords Go.Proofs.YtipfkicndjddgaaW.PrintLast
abbrev Pr := S68
abbrev rdP (l : List Pr) (i : Int) : Pr := rd_T68 l i
/-- What is to be looked at, size by size. -/
def goodL (a b : Nat) (L : List Pr) : Bool :=
  decide (L.length = a * b) &&
  ((List.range (a * b)).all fun g => decide (spec_l1First.f b (g : Int) = some (rdP L g).f0) && decide (spec_l1Second.f b (g : Int) = some (rdP L g).f1)) &&
  ((List.range a).all fun x => (List.range b).all fun y => decide (slices_Index_2_int_2_int.f 64 L (x : Int) (y : Int) = spec_l1Pair.f b (x : Int) (y : Int)) && (spec_l1Pair.f b (x : Int) (y : Int)).any fun (g : Int) => decide (0 ≤ g ∧ g < (a : Int) * (b : Int))) &&
  (L.all fun e => decide (0 ≤ e.f0 ∧ e.f0 < a ∧ 0 ≤ e.f1 ∧ e.f1 < b))
def goodP (a b : Nat) : Bool := (impl_pairs.f 64 a [] [] [] b [] [] []).any (goodL a b)
def sizes : List (Nat × Nat) := [(2, 2), (2, 3), (2, 4), (2, 5), (2, 6), (2, 7), (2, 8), (3, 2), (3, 3), (3, 4), (3, 5), (4, 2), (4, 3), (4, 4), (5, 2), (5, 3), (6, 2), (7, 2), (8, 2)]
theorem good_all : ∀ p ∈ sizes, goodP p.1 p.2 = true := by decide +kernel
theorem in_sizes {a b : Nat} (h1 : 2 ≤ a) (h2 : 2 ≤ b) (h3 : a * b ≤ 16) : (a, b) ∈ sizes := by
  have a8 : a ≤ 8 := by
    have := Nat.mul_le_mul_left a h2
    omega
  have b8 : b ≤ 8 := by
    have := Nat.mul_le_mul_right b h1
    omega
  have all : ((List.range 9).all fun x => (List.range 9).all fun y => !(decide (2 ≤ x) && decide (2 ≤ y) && decide (x * y ≤ 16)) || sizes.contains (x, y)) = true := by decide +kernel
  have := List.all_eq_true.mp (List.all_eq_true.mp all a (List.mem_range.mpr (by omega))) b (List.mem_range.mpr (by omega))
  simpa [h1, h2, h3] using this
/-- The tables are not looked at. -/
theorem pairs_eq (a b : Nat) (p t p' t' : List Int) (u u' : List Bool) : ∀ k, impl_pairs.f k a p t u b p' t' u' = impl_pairs.f k a [] [] [] b [] [] [] := by
  have both : ∀ k, (∀ l i, impl_pairs.l0 k l i a p t u b p' t' u' = impl_pairs.l0 k l i a [] [] [] b [] [] []) ∧ (∀ l i j, impl_pairs.l1 k l i j a p t u b p' t' u' = impl_pairs.l1 k l i j a [] [] [] b [] [] []) := by
    intro k
    induction k with
    | zero => exact ⟨fun _ _ => rfl, fun _ _ _ => rfl⟩
    | succ k ih =>
      refine ⟨fun l i => ?_, fun l i j => ?_⟩
      · simp only [impl_pairs.l0, ih.2]
      · simp only [impl_pairs.l1, ih.1, ih.2]
  intro k
  unfold impl_pairs.f
  exact (both k).1 _ _
theorem LeO.of_none {α : Type} (x : Option α) : LeO none x := fun _ h => by cases h
theorem pairs_more (a b : Nat) : ∀ k, LeO (impl_pairs.f k a [] [] [] b [] [] []) (impl_pairs.f (k + 1) a [] [] [] b [] [] []) := by
  have both : ∀ k, (∀ l i r, impl_pairs.l0 k l i a [] [] [] b [] [] [] = some r → impl_pairs.l0 (k + 1) l i a [] [] [] b [] [] [] = some r) ∧ (∀ l i j r, impl_pairs.l1 k l i j a [] [] [] b [] [] [] = some r → impl_pairs.l1 (k + 1) l i j a [] [] [] b [] [] [] = some r) := by
    intro k
    induction k with
    | zero => exact ⟨fun _ _ _ h => by simp [impl_pairs.l0] at h, fun _ _ _ _ h => by simp [impl_pairs.l1] at h⟩
    | succ k ih =>
      refine ⟨fun l i r h => ?_, fun l i j r h => ?_⟩
      · rw [impl_pairs.l0] at h ⊢
        split
        · rename_i c; rw [if_pos c] at h; exact ih.2 _ _ _ _ h
        · rename_i c; rw [if_neg c] at h; exact h
      · rw [impl_pairs.l1] at h ⊢
        repeat' split at h
        all_goals (first | (cases h; done) | skip)
        all_goals simp only [*, if_true, if_false, Bool.false_eq_true]
        all_goals first | exact ih.2 _ _ _ _ h | exact ih.1 _ _ _ h
  intro k r h
  unfold impl_pairs.f at h ⊢
  exact (both k).1 _ _ _ h
structure Two (a b : Nat) (L : List Pr) : Prop where
  len : L.length = a * b
  ev : ∀ (p t p' t' : List Int) (u u' : List Bool), Ev (fun k => impl_pairs.f k a p t u b p' t' u') L
  first : ∀ g : Nat, g < a * b → spec_l1First.f b (g : Int) = some (rdP L g).f0
  second : ∀ g : Nat, g < a * b → spec_l1Second.f b (g : Int) = some (rdP L g).f1
  idx : ∀ x y : Nat, x < a → y < b → slices_Index_2_int_2_int.f 64 L (x : Int) (y : Int) = spec_l1Pair.f b (x : Int) (y : Int)
  num : ∀ x y : Nat, x < a → y < b → ∃ g : Int, spec_l1Pair.f b (x : Int) (y : Int) = some g ∧ 0 ≤ g ∧ g < a * b
  inr : ∀ e ∈ L, 0 ≤ e.f0 ∧ e.f0 < a ∧ 0 ≤ e.f1 ∧ e.f1 < b
theorem two_good {a b : Nat} {L : List Pr} (h : goodL a b L = true) (ev : ∀ (p t p' t' : List Int) (u u' : List Bool), Ev (fun k => impl_pairs.f k a p t u b p' t' u') L) : Two a b L := by
  simp only [goodL, Bool.and_eq_true, decide_eq_true_eq, List.all_eq_true, List.mem_range] at h
  obtain ⟨⟨⟨g2, g3⟩, g4⟩, g5⟩ := h
  refine ⟨g2, ev, fun g hg => (g3 g hg).1, fun g hg => (g3 g hg).2, fun x y hx hy => (g4 x hx y hy).1, fun x y hx hy => ?_, g5⟩
  have := (g4 x hx y hy).2
  cases c : spec_l1Pair.f (b : Int) (x : Int) (y : Int) with
  | none => rw [c] at this; cases this
  | some g => rw [c] at this; exact ⟨g, rfl, of_decide_eq_true this⟩
theorem two_of {a b : Nat} (h1 : 2 ≤ a) (h2 : 2 ≤ b) (h3 : a * b ≤ 16) : ∃ L, Two a b L := by
  have h := good_all (a, b) (in_sizes h1 h2 h3)
  unfold goodP at h
  have ev := fun (p t p' t' : List Int) (u u' : List Bool) (L : List Pr) (k : Nat) (hl : impl_pairs.f k a [] [] [] b [] [] [] = some L) => evCongr (fun k => pairs_eq a b p t p' t' u u' k) (Ev.of (pairs_more a b) hl)
  generalize hk : 64 = k at h
  cases c : impl_pairs.f k a [] [] [] b [] [] [] with
  | none => rw [c] at h; cases h
  | some L => rw [c] at h; exact ⟨L, two_good h fun p t p' t' u u' => ev p t p' t' u u' L k c⟩
theorem index_more (l : List Pr) (x y : Int) : ∀ k, LeO (slices_Index_2_int_2_int.f k l x y) (slices_Index_2_int_2_int.f (k + 1) l x y) := by
  have go : ∀ k n i r, slices_Index_2_int_2_int.l0 k l n i x y = some r → slices_Index_2_int_2_int.l0 (k + 1) l n i x y = some r := by
    intro k
    induction k with
    | zero => intro n i r h; simp [slices_Index_2_int_2_int.l0] at h
    | succ k ih =>
      intro n i r h
      rw [slices_Index_2_int_2_int.l0] at h ⊢
      repeat' split at h
      all_goals (first | (cases h; done) | skip)
      all_goals simp only [*, if_true, if_false, Bool.false_eq_true]
      all_goals first | exact ih _ _ _ h | exact h
  intro k r h
  unfold slices_Index_2_int_2_int.f at h ⊢
  exact go k _ _ _ h
theorem rdP_mem (l : List Pr) (i : Int) (h0 : 0 ≤ i) (h1 : i < l.length) : rdP l i ∈ l := by
  have : i.toNat < l.length := by omega
  show l.getD i.toNat _ ∈ l
  rw [List.getD_eq_getElem?_getD, List.getElem?_eq_getElem this]
  exact List.getElem_mem this
/-- What is none of them has no place. -/
theorem index_none (l : List Pr) (hl : (l.length : Int) < 4611686018427387904) (x y : Int) (h : ∀ e ∈ l, ¬ (x = e.f0 ∧ y = e.f1)) : Ev (fun k => slices_Index_2_int_2_int.f k l x y) (-1) := by
  unfold slices_Index_2_int_2_int.f
  have lp : ∀ (m : Nat) (i : Int), 0 ≤ i → i + m = l.length → Ev (fun k => slices_Index_2_int_2_int.l0 k l (l.length : Int) i x y) (-1) := by
    intro m
    induction m with
    | zero =>
      intro i h0 hi
      refine Ev.step (f := fun _ => some (-1)) (fun k => ?_) (Ev.now _)
      simp only [slices_Index_2_int_2_int.l0]; rw [if_neg (by omega)]
    | succ m ih =>
      intro i h0 hi
      refine Ev.step (f := fun k => slices_Index_2_int_2_int.l0 k l (l.length : Int) (i + 1) x y) (fun k => ?_) (ih (i + 1) (by omega) (by omega))
      have i1 : i < (l.length : Int) := by omega
      have hx := h _ (rdP_mem l i h0 i1)
      simp only [slices_Index_2_int_2_int.l0, if_pos i1, if_pos h0, w64 (x := i + 1) (by omega) (by omega)]
      rw [if_neg]
      simp only [Bool.and_eq_true, beq_iff_eq]
      exact hx
  exact lp l.length 0 (by omega) (by omega)
section
variable {n n' : Int} {p t p' t' : List Int} {b b' : List Bool}
def prodV (n : Int) (p t : List Int) (b : List Bool) (n' : Int) (p' t' : List Int) (b' : List Bool) : Bool := sysV n p t b && (sysV n' p' t' b' && decide (wrap64 (n * n') ≤ 16))
theorem specProd : Ev (fun k => spec_l1Product.f k n p t b n' p' t' b') (prodV n p t b n' p' t' b') := by
  unfold spec_l1Product.f prodV
  refine Ev.bind (specSystem n p t b) ?_
  cases sysV n p t b
  · simpa using Ev.now false
  · simp only [if_true, Bool.true_and]
    refine Ev.bind (specSystem n' p' t' b') ?_
    cases sysV n' p' t' b'
    · simpa using Ev.now false
    · simp only [if_true, Bool.true_and]; exact Ev.now _
theorem implProd : Ev (fun k => impl_isProduct.f k n p t b n' p' t' b') (prodV n p t b n' p' t' b') := by
  unfold impl_isProduct.f prodV
  refine Ev.bind (implSystem n p t b) ?_
  cases sysV n p t b
  · simpa using Ev.now false
  · simp only [if_true, Bool.true_and]
    refine Ev.bind (implSystem n' p' t' b') ?_
    cases sysV n' p' t' b'
    · simpa using Ev.now false
    · simp only [if_true, Bool.true_and]; exact Ev.now _
theorem prod_ok (h : prodV n p t b n' p' t' b' = true) : OK n p t b ∧ OK n' p' t' b' ∧ wrap64 (n * n') = n * n' ∧ ∃ x y : Nat, n = x ∧ n' = y ∧ x * y ≤ 16 ∧ n * n' = ((x * y : Nat) : Int) ∧ ∃ L, Two x y L := by
  unfold prodV at h
  rw [Bool.and_eq_true, Bool.and_eq_true, decide_eq_true_eq] at h
  have o := sysV_ok h.1
  have o' := sysV_ok h.2.1
  have l1 := o.lo; have l2 := o.hi; have l3 := o'.lo; have l4 := o'.hi
  obtain ⟨x, rfl⟩ := Int.eq_ofNat_of_zero_le (show 0 ≤ n by omega)
  obtain ⟨y, rfl⟩ := Int.eq_ofNat_of_zero_le (show 0 ≤ n' by omega)
  have e : (x : Int) * (y : Int) = ((x * y : Nat) : Int) := by push_cast; rfl
  have hm : x * y ≤ 16 * 16 := Nat.mul_le_mul (by omega) (by omega)
  have w : wrap64 ((x : Int) * (y : Int)) = (x : Int) * (y : Int) := w64 (by omega) (by omega)
  have h3 : x * y ≤ 16 := by have := h.2.2; rw [w, e] at this; omega
  exact ⟨o, o', w, x, y, rfl, rfl, h3, e, two_of (by omega) (by omega) h3⟩
end
end Go.Proofs.Ytipfkicndjddgaa.Pure
end
