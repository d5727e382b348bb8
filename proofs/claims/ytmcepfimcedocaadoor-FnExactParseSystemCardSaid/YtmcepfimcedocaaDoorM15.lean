-- Several texts in one (wip/tools/merge.py).
import Derived.Test.YtmcepfimcedocaaDoorP0
import Derived.Test.YtmcepfimcedocaaDoorPf82
import Derived.Test.YtmcepfimcedocaaDoorPf57
import Derived.Test.YtmcepfimcedocaaDoorM3
import Derived.Test.YtmcepfimcedocaaDoorM1
import Derived.Test.YtmcepfimcedocaaDoorM9
import Derived.Test.YtmcepfimcedocaaDoorB1
import Derived.KernelRfl
section
/-! shorter words -/
namespace Go.Proofs.YtmcepfimcedocaaDoor.P
open Go.RowKit Go.Proofs.YtmcepfimcedocaaDoorW.PrintWords Go.Proofs.YtmcepfimcedocaaDoorW.PrintLast Go.Proofs.YtmcepfimcedocaaDoorW.PrintMore
attribute [local go_sem] max2_int min2_int max_two min_two max_three min_three max_four min_four   -- for this text's walks alone
set_option linter.unusedVariables false
set_option linter.unusedSimpArgs false

/-! ### impl_isProduct: function 56 -/
def impl_isProduct.f (k : Nat) (a0_0 : Int) (l0_1 : List Int) (l0_2 : List Int) (l0_3 : List Bool) (a1_0 : Int) (l1_1 : List Int) (l1_2 : List Int) (l1_3 : List Bool) : Option (Bool) := (impl_IsSystem.f k a0_0 l0_1 l0_2 l0_3).bind fun t418 => (if t418 = true then ((impl_IsSystem.f k a1_0 l1_1 l1_2 l1_3).bind fun t419 => (if t419 = true then (some (decide ((wrap64 (a0_0 * a1_0)) ≤ 16))) else (some false))) else (some false))
set_option maxHeartbeats 8000000 in
set_option maxRecDepth 100000 in
theorem impl_isProduct.calls (k : Nat) (a0_0 : Int) (A0_1 : Option Addr) (c0_1 : Nat) (l0_1 : List Int) (A0_2 : Option Addr) (c0_2 : Nat) (l0_2 : List Int) (A0_3 : Option Addr) (c0_3 : Nat) (l0_3 : List Bool) (a1_0 : Int) (A1_1 : Option Addr) (c1_1 : Nat) (l1_1 : List Int) (A1_2 : Option Addr) (c1_2 : Nat) (l1_2 : List Int) (A1_3 : Option Addr) (c1_3 : Nat) (l1_3 : List Bool) (r : Bool) (w : World) (hr0_1 : Kd.C (Kd.int .i64) w A0_1 l0_1.length l0_1) (hc0_1 : l0_1.length ≤ c0_1) (hr0_2 : Kd.C (Kd.int .i64) w A0_2 l0_2.length l0_2) (hc0_2 : l0_2.length ≤ c0_2) (hr0_3 : Kd.C Kd.bool w A0_3 l0_3.length l0_3) (hc0_3 : l0_3.length ≤ c0_3) (hr1_1 : Kd.C (Kd.int .i64) w A1_1 l1_1.length l1_1) (hc1_1 : l1_1.length ≤ c1_1) (hr1_2 : Kd.C (Kd.int .i64) w A1_2 l1_2.length l1_2) (hc1_2 : l1_2.length ≤ c1_2) (hr1_3 : Kd.C Kd.bool w A1_3 l1_3.length l1_3) (hc1_3 : l1_3.length ≤ c1_3) (h : impl_isProduct.f k a0_0 l0_1 l0_2 l0_3 a1_0 l1_1 l1_2 l1_3 = some r) :
  Calls Tryd.prog 56 #[.agg #[.int .i64 a0_0, .slice A0_1 l0_1.length c0_1, .slice A0_2 l0_2.length c0_2, .slice A0_3 l0_3.length c0_3], .agg #[.int .i64 a1_0, .slice A1_1 l1_1.length c1_1, .slice A1_2 l1_2.length c1_2, .slice A1_3 l1_3.length c1_3]] w fun e w' => e = .returned (.bool r) ∧ Below w.heap.size w w' := by
 have hu28 := Tryd.underlying28; have HR0_1 := sd_ hr0_1; have HC0_1 := sd_ hc0_1; clear hr0_1 hc0_1; have HR0_2 := sd_ hr0_2; have HC0_2 := sd_ hc0_2; clear hr0_2 hc0_2; have HR0_3 := sd_ hr0_3; have HC0_3 := sd_ hc0_3; clear hr0_3 hc0_3; have HR1_1 := sd_ hr1_1; have HC1_1 := sd_ hc1_1; clear hr1_1 hc1_1; have HR1_2 := sd_ hr1_2; have HC1_2 := sd_ hc1_2; clear hr1_2 hc1_2; have HR1_3 := sd_ hr1_3; have HC1_3 := sd_ hc1_3; clear hr1_3 hc1_3; have HB := sd_ (Below.refl w.heap.size w); have H : ((impl_IsSystem.f k a0_0 l0_1 l0_2 l0_3).bind fun t418 => (if t418 = true then ((impl_IsSystem.f k a1_0 l1_1 l1_2 l1_3).bind fun t419 => (if t419 = true then (some (decide ((wrap64 (a0_0 * a1_0)) ≤ 16))) else (some false))) else (some false))) = some r := h; clear h
 revert H; refine ob_ fun t418 A3 H => ?_
 obtain rfl | rfl := bt_ t418
 ·replace H := it_ H
  revert H; refine ob_ fun t419 A5 H => ?_
  obtain rfl | rfl := bt_ t419
  ·replace H := it_ H; obtain rfl := Option.some.inj H; go_enter Tryd.func56, Tryd.ntmps56; go_wp2_with (first | ((with_reducible refine gate_dst (N := 2) rfl ?_); refine bx_ (N := 2) (cs := #[.int .i64 a0_0, .slice A0_1 l0_1.length c0_1, .slice A0_2 l0_2.length c0_2, .slice A0_3 l0_3.length c0_3]) (t := 28) ?_; intro gb416 hg w7 hbox hb; have BK416 := sd_ (hbox); have GW416 := sd_ (gs_ hg (bw0_ HB.out)); have GE416 := sd_ (gs_ hg (bw0_ HB.out)); replace HB := sd_ (below_step (bw0_ HB.out) hb); clear hb hbox hg) | ((with_reducible refine gate_dst (N := 3) rfl ?_); refine bx_ (N := 3) (cs := #[.int .i64 a1_0, .slice A1_1 l1_1.length c1_1, .slice A1_2 l1_2.length c1_2, .slice A1_3 l1_3.length c1_3]) (t := 28) ?_; intro gb417 hg w8 hbox hb; have BK417 := sd_ (hbox); have GW417 := sd_ (gs_ hg (bw1_ HB.out GE416.out)); have GE417 := sd_ (gs_ hg (bw1_ HB.out GE416.out)); replace HB := sd_ (below_step (bw1_ HB.out GE416.out) hb); have NB416_417 := sd_ (nl_ hg (bl_ BK416.out)); have NB417_416 := sd_ (ng_ hg (bl_ BK416.out)); replace BK416 := sd_ (bb_ BK416.out hb); clear hb hbox hg; have hnb9 := NB416_417.out; have hnc9 := NB417_416.out; obtain ⟨z10_0, z10_1, z10_2, z10_3, f10_0, f10_1, f10_2, f10_3⟩ := bf4_ BK416.out) | ((with_reducible refine gate_callee (f := 82) rfl ?_); refine goesL_ (some 6) rfl rfl Tryd.func82 (by kernel_rfl) rfl #[.agg #[.int .i64 a0_0, .slice A0_1 l0_1.length c0_1, .slice A0_2 l0_2.length c0_2, .slice A0_3 l0_3.length c0_3]] rfl la_ ?_; (with_reducible refine (impl_IsSystem.calls k a0_0 _ _ l0_1 _ _ l0_2 _ _ l0_3 true _ (kc_ HR0_1.out HB.out) HC0_1.out (kc_ HR0_2.out HB.out) HC0_2.out (kc_ HR0_3.out HB.out) HC0_3.out A3.out).mono ?_); rintro e w11 ⟨rfl, hb⟩; refine ⟨_, rfl, ?_⟩; replace BK416 := sd_ (bb_ BK416.out hb); replace BK417 := sd_ (bb_ BK417.out hb); replace HB := sd_ (below_step (bw2_ HB.out GE416.out GE417.out) hb); (try clear hb); obtain ⟨z12_0, z12_1, z12_2, z12_3, f12_0, f12_1, f12_2, f12_3⟩ := bf4_ BK417.out) | (go_at_call 82; (with_reducible refine (impl_IsSystem.calls k a1_0 _ _ l1_1 _ _ l1_2 _ _ l1_3 true _ (kc_ HR1_1.out HB.out) HC1_1.out (kc_ HR1_2.out HB.out) HC1_2.out (kc_ HR1_3.out HB.out) HC1_3.out A5.out).mono ?_); rintro e w13 ⟨rfl, hb⟩; replace BK416 := sd_ (bb_ BK416.out hb); replace BK417 := sd_ (bb_ BK417.out hb); replace HB := sd_ (below_step (bw2_ HB.out GE416.out GE417.out) hb); (try clear hb); obtain ⟨z14_0, z14_1, z14_2, z14_3, f14_0, f14_1, f14_2, f14_3⟩ := bf4_ BK416.out; obtain ⟨z15_0, z15_1, z15_2, z15_3, f15_0, f15_1, f15_2, f15_3⟩ := bf4_ BK417.out)); go_ret; exact ⟨an_, bw2_ HB.out GE416.out GE417.out⟩
  replace H := if_ H; obtain rfl := Option.some.inj H; go_enter Tryd.func56, Tryd.ntmps56; go_wp2_with (first | ((with_reducible refine gate_dst (N := 2) rfl ?_); refine bx_ (N := 2) (cs := #[.int .i64 a0_0, .slice A0_1 l0_1.length c0_1, .slice A0_2 l0_2.length c0_2, .slice A0_3 l0_3.length c0_3]) (t := 28) ?_; intro gb416 hg w16 hbox hb; have BK416 := sd_ (hbox); have GW416 := sd_ (gs_ hg (bw0_ HB.out)); have GE416 := sd_ (gs_ hg (bw0_ HB.out)); replace HB := sd_ (below_step (bw0_ HB.out) hb); clear hb hbox hg) | ((with_reducible refine gate_dst (N := 3) rfl ?_); refine bx_ (N := 3) (cs := #[.int .i64 a1_0, .slice A1_1 l1_1.length c1_1, .slice A1_2 l1_2.length c1_2, .slice A1_3 l1_3.length c1_3]) (t := 28) ?_; intro gb417 hg w17 hbox hb; have BK417 := sd_ (hbox); have GW417 := sd_ (gs_ hg (bw1_ HB.out GE416.out)); have GE417 := sd_ (gs_ hg (bw1_ HB.out GE416.out)); replace HB := sd_ (below_step (bw1_ HB.out GE416.out) hb); have NB416_417 := sd_ (nl_ hg (bl_ BK416.out)); have NB417_416 := sd_ (ng_ hg (bl_ BK416.out)); replace BK416 := sd_ (bb_ BK416.out hb); clear hb hbox hg; have hnb18 := NB416_417.out; have hnc18 := NB417_416.out; obtain ⟨z19_0, z19_1, z19_2, z19_3, f19_0, f19_1, f19_2, f19_3⟩ := bf4_ BK416.out) | ((with_reducible refine gate_callee (f := 82) rfl ?_); refine goesL_ (some 6) rfl rfl Tryd.func82 (by kernel_rfl) rfl #[.agg #[.int .i64 a0_0, .slice A0_1 l0_1.length c0_1, .slice A0_2 l0_2.length c0_2, .slice A0_3 l0_3.length c0_3]] rfl la_ ?_; (with_reducible refine (impl_IsSystem.calls k a0_0 _ _ l0_1 _ _ l0_2 _ _ l0_3 true _ (kc_ HR0_1.out HB.out) HC0_1.out (kc_ HR0_2.out HB.out) HC0_2.out (kc_ HR0_3.out HB.out) HC0_3.out A3.out).mono ?_); rintro e w20 ⟨rfl, hb⟩; refine ⟨_, rfl, ?_⟩; replace BK416 := sd_ (bb_ BK416.out hb); replace BK417 := sd_ (bb_ BK417.out hb); replace HB := sd_ (below_step (bw2_ HB.out GE416.out GE417.out) hb); (try clear hb); obtain ⟨z21_0, z21_1, z21_2, z21_3, f21_0, f21_1, f21_2, f21_3⟩ := bf4_ BK417.out) | (go_at_call 82; (with_reducible refine (impl_IsSystem.calls k a1_0 _ _ l1_1 _ _ l1_2 _ _ l1_3 false _ (kc_ HR1_1.out HB.out) HC1_1.out (kc_ HR1_2.out HB.out) HC1_2.out (kc_ HR1_3.out HB.out) HC1_3.out A5.out).mono ?_); rintro e w22 ⟨rfl, hb⟩; replace BK416 := sd_ (bb_ BK416.out hb); replace BK417 := sd_ (bb_ BK417.out hb); replace HB := sd_ (below_step (bw2_ HB.out GE416.out GE417.out) hb); (try clear hb))); go_ret; exact ⟨an_, bw2_ HB.out GE416.out GE417.out⟩
 replace H := if_ H; obtain rfl := Option.some.inj H; go_enter Tryd.func56, Tryd.ntmps56; go_wp2_with (first | ((with_reducible refine gate_dst (N := 2) rfl ?_); refine bx_ (N := 2) (cs := #[.int .i64 a0_0, .slice A0_1 l0_1.length c0_1, .slice A0_2 l0_2.length c0_2, .slice A0_3 l0_3.length c0_3]) (t := 28) ?_; intro gb416 hg w23 hbox hb; have BK416 := sd_ (hbox); have GW416 := sd_ (gs_ hg (bw0_ HB.out)); have GE416 := sd_ (gs_ hg (bw0_ HB.out)); replace HB := sd_ (below_step (bw0_ HB.out) hb); clear hb hbox hg) | ((with_reducible refine gate_dst (N := 3) rfl ?_); refine bx_ (N := 3) (cs := #[.int .i64 a1_0, .slice A1_1 l1_1.length c1_1, .slice A1_2 l1_2.length c1_2, .slice A1_3 l1_3.length c1_3]) (t := 28) ?_; intro gb417 hg w24 hbox hb; have BK417 := sd_ (hbox); have GW417 := sd_ (gs_ hg (bw1_ HB.out GE416.out)); have GE417 := sd_ (gs_ hg (bw1_ HB.out GE416.out)); replace HB := sd_ (below_step (bw1_ HB.out GE416.out) hb); have NB416_417 := sd_ (nl_ hg (bl_ BK416.out)); have NB417_416 := sd_ (ng_ hg (bl_ BK416.out)); replace BK416 := sd_ (bb_ BK416.out hb); clear hb hbox hg; have hnb25 := NB416_417.out; have hnc25 := NB417_416.out; obtain ⟨z26_0, z26_1, z26_2, z26_3, f26_0, f26_1, f26_2, f26_3⟩ := bf4_ BK416.out) | ((with_reducible refine gate_callee (f := 82) rfl ?_); refine goesL_ (some 6) rfl rfl Tryd.func82 (by kernel_rfl) rfl #[.agg #[.int .i64 a0_0, .slice A0_1 l0_1.length c0_1, .slice A0_2 l0_2.length c0_2, .slice A0_3 l0_3.length c0_3]] rfl la_ ?_; (with_reducible refine (impl_IsSystem.calls k a0_0 _ _ l0_1 _ _ l0_2 _ _ l0_3 false _ (kc_ HR0_1.out HB.out) HC0_1.out (kc_ HR0_2.out HB.out) HC0_2.out (kc_ HR0_3.out HB.out) HC0_3.out A3.out).mono ?_); rintro e w27 ⟨rfl, hb⟩; refine ⟨_, rfl, ?_⟩; replace BK416 := sd_ (bb_ BK416.out hb); replace BK417 := sd_ (bb_ BK417.out hb); replace HB := sd_ (below_step (bw2_ HB.out GE416.out GE417.out) hb); (try clear hb))); go_ret; exact ⟨an_, bw2_ HB.out GE416.out GE417.out⟩

end Go.Proofs.YtmcepfimcedocaaDoor.P
end

section
/- Pairs of grades: the program's list of them is the reference's count. -/
set_option linter.unusedSimpArgs false
set_option linter.unusedVariables false
namespace Go.Proofs.YtmcepfimcedocaaDoor.Pure
open Go.RowKit Go.Proofs.YtmcepfimcedocaaDoor.P Go.Proofs.YtmcepfimcedocaaDoorW.PrintWords Go.Proofs.YtmcepfimcedocaaDoorW.PrintLast
abbrev Pr := S64
abbrev rdP (l : List Pr) (i : Int) : Pr := rd_T64 l i
/-- What is to be looked at, size by size. -/
def goodL (a b : Nat) (L : List Pr) : Bool :=
  decide (L.length = a * b) &&
  ((List.range (a * b)).all fun g => decide (spec_l1First.f b (g : Int) = some (rdP L g).f0) && decide (spec_l1Second.f b (g : Int) = some (rdP L g).f1)) &&
  ((List.range a).all fun x => (List.range b).all fun y => decide (slices_Index_2_int_2_int.f 64 L (x : Int) (y : Int) = spec_l1Pair.f b (x : Int) (y : Int)) && (spec_l1Pair.f b (x : Int) (y : Int)).any fun (g : Int) => decide (0 ≤ g ∧ g < (a : Int) * (b : Int))) &&
  (L.all fun e => decide (0 ≤ e.f0 ∧ e.f0 < a ∧ 0 ≤ e.f1 ∧ e.f1 < b))
def goodP (a b : Nat) : Bool := (impl_pairs.f 64 a [] [] [] b [] [] []).any (goodL a b)
def sizes : List (Nat × Nat) := [(2, 2), (2, 3), (2, 4), (2, 5), (2, 6), (2, 7), (2, 8), (3, 2), (3, 3), (3, 4), (3, 5), (4, 2), (4, 3), (4, 4), (5, 2), (5, 3), (6, 2), (7, 2), (8, 2)]
theorem good_all : ∀ p ∈ sizes, goodP p.1 p.2 = true := by decide +kernel
theorem in_sizes {a b : Nat} (h1 : 2 ≤ a) (h2 : 2 ≤ b) (h3 : a * b ≤ 16) : (a, b) ∈ sizes := by
  have a8 : a ≤ 8 := by
    have := Nat.mul_le_mul_left a h2
    omega
  have b8 : b ≤ 8 := by
    have := Nat.mul_le_mul_right b h1
    omega
  have all : ((List.range 9).all fun x => (List.range 9).all fun y => !(decide (2 ≤ x) && decide (2 ≤ y) && decide (x * y ≤ 16)) || sizes.contains (x, y)) = true := by decide +kernel
  have := List.all_eq_true.mp (List.all_eq_true.mp all a (List.mem_range.mpr (by omega))) b (List.mem_range.mpr (by omega))
  simpa [h1, h2, h3] using this
/-- The tables are not looked at. -/
theorem pairs_eq (a b : Nat) (p t p' t' : List Int) (u u' : List Bool) : ∀ k, impl_pairs.f k a p t u b p' t' u' = impl_pairs.f k a [] [] [] b [] [] [] := by
  have both : ∀ k, (∀ l i, impl_pairs.l0 k l i a p t u b p' t' u' = impl_pairs.l0 k l i a [] [] [] b [] [] []) ∧ (∀ l i j, impl_pairs.l1 k l i j a p t u b p' t' u' = impl_pairs.l1 k l i j a [] [] [] b [] [] []) := by
    intro k
    induction k with
    | zero => exact ⟨fun _ _ => rfl, fun _ _ _ => rfl⟩
    | succ k ih =>
      refine ⟨fun l i => ?_, fun l i j => ?_⟩
      · simp only [impl_pairs.l0, ih.2]
      · simp only [impl_pairs.l1, ih.1, ih.2]
  intro k
  unfold impl_pairs.f
  exact (both k).1 _ _
theorem pairs_more (a b : Nat) : ∀ k, LeO (impl_pairs.f k a [] [] [] b [] [] []) (impl_pairs.f (k + 1) a [] [] [] b [] [] []) := by
  have both : ∀ k, (∀ l i r, impl_pairs.l0 k l i a [] [] [] b [] [] [] = some r → impl_pairs.l0 (k + 1) l i a [] [] [] b [] [] [] = some r) ∧ (∀ l i j r, impl_pairs.l1 k l i j a [] [] [] b [] [] [] = some r → impl_pairs.l1 (k + 1) l i j a [] [] [] b [] [] [] = some r) := by
    intro k
    induction k with
    | zero => exact ⟨fun _ _ _ h => by simp [impl_pairs.l0] at h, fun _ _ _ _ h => by simp [impl_pairs.l1] at h⟩
    | succ k ih =>
      refine ⟨fun l i r h => ?_, fun l i j r h => ?_⟩
      · rw [impl_pairs.l0] at h ⊢
        split
        · rename_i c; rw [if_pos c] at h; exact ih.2 _ _ _ _ h
        · rename_i c; rw [if_neg c] at h; exact h
      · rw [impl_pairs.l1] at h ⊢
        repeat' split at h
        all_goals (first | (cases h; done) | skip)
        all_goals simp only [*, if_true, if_false, Bool.false_eq_true]
        all_goals first | exact ih.2 _ _ _ _ h | exact ih.1 _ _ _ h
  intro k r h
  unfold impl_pairs.f at h ⊢
  exact (both k).1 _ _ _ h
structure Two (a b : Nat) (L : List Pr) : Prop where
  len : L.length = a * b
  ev : ∀ (p t p' t' : List Int) (u u' : List Bool), Ev (fun k => impl_pairs.f k a p t u b p' t' u') L
  first : ∀ g : Nat, g < a * b → spec_l1First.f b (g : Int) = some (rdP L g).f0
  second : ∀ g : Nat, g < a * b → spec_l1Second.f b (g : Int) = some (rdP L g).f1
  idx : ∀ x y : Nat, x < a → y < b → slices_Index_2_int_2_int.f 64 L (x : Int) (y : Int) = spec_l1Pair.f b (x : Int) (y : Int)
  num : ∀ x y : Nat, x < a → y < b → ∃ g : Int, spec_l1Pair.f b (x : Int) (y : Int) = some g ∧ 0 ≤ g ∧ g < a * b
  inr : ∀ e ∈ L, 0 ≤ e.f0 ∧ e.f0 < a ∧ 0 ≤ e.f1 ∧ e.f1 < b
theorem two_good {a b : Nat} {L : List Pr} (h : goodL a b L = true) (ev : ∀ (p t p' t' : List Int) (u u' : List Bool), Ev (fun k => impl_pairs.f k a p t u b p' t' u') L) : Two a b L := by
  simp only [goodL, Bool.and_eq_true, decide_eq_true_eq, List.all_eq_true, List.mem_range] at h
  obtain ⟨⟨⟨g2, g3⟩, g4⟩, g5⟩ := h
  refine ⟨g2, ev, fun g hg => (g3 g hg).1, fun g hg => (g3 g hg).2, fun x y hx hy => (g4 x hx y hy).1, fun x y hx hy => ?_, g5⟩
  have := (g4 x hx y hy).2
  cases c : spec_l1Pair.f (b : Int) (x : Int) (y : Int) with
  | none => rw [c] at this; cases this
  | some g => rw [c] at this; exact ⟨g, rfl, of_decide_eq_true this⟩
theorem two_of {a b : Nat} (h1 : 2 ≤ a) (h2 : 2 ≤ b) (h3 : a * b ≤ 16) : ∃ L, Two a b L := by
  have h := good_all (a, b) (in_sizes h1 h2 h3)
  unfold goodP at h
  have ev := fun (p t p' t' : List Int) (u u' : List Bool) (L : List Pr) (k : Nat) (hl : impl_pairs.f k a [] [] [] b [] [] [] = some L) => evCongr (fun k => pairs_eq a b p t p' t' u u' k) (Ev.of (pairs_more a b) hl)
  generalize hk : 64 = k at h
  cases c : impl_pairs.f k a [] [] [] b [] [] [] with
  | none => rw [c] at h; cases h
  | some L => rw [c] at h; exact ⟨L, two_good h fun p t p' t' u u' => ev p t p' t' u u' L k c⟩
theorem index_more (l : List Pr) (x y : Int) : ∀ k, LeO (slices_Index_2_int_2_int.f k l x y) (slices_Index_2_int_2_int.f (k + 1) l x y) := by
  have go : ∀ k n i r, slices_Index_2_int_2_int.l0 k l n i x y = some r → slices_Index_2_int_2_int.l0 (k + 1) l n i x y = some r := by
    intro k
    induction k with
    | zero => intro n i r h; simp [slices_Index_2_int_2_int.l0] at h
    | succ k ih =>
      intro n i r h
      rw [slices_Index_2_int_2_int.l0] at h ⊢
      repeat' split at h
      all_goals (first | (cases h; done) | skip)
      all_goals simp only [*, if_true, if_false, Bool.false_eq_true]
      all_goals first | exact ih _ _ _ h | exact h
  intro k r h
  unfold slices_Index_2_int_2_int.f at h ⊢
  exact go k _ _ _ h
theorem rdP_mem (l : List Pr) (i : Int) (h0 : 0 ≤ i) (h1 : i < l.length) : rdP l i ∈ l := by
  have : i.toNat < l.length := by omega
  show l.getD i.toNat _ ∈ l
  rw [List.getD_eq_getElem?_getD, List.getElem?_eq_getElem this]
  exact List.getElem_mem this
section
variable {n n' : Int} {p t p' t' : List Int} {b b' : List Bool}
def prodV (n : Int) (p t : List Int) (b : List Bool) (n' : Int) (p' t' : List Int) (b' : List Bool) : Bool := sysV n p t b && (sysV n' p' t' b' && decide (wrap64 (n * n') ≤ 16))
theorem specProd : Ev (fun k => spec_l1Product.f k n p t b n' p' t' b') (prodV n p t b n' p' t' b') := by
  unfold spec_l1Product.f prodV
  refine Ev.bind (specSystem n p t b) ?_
  cases sysV n p t b
  · simpa using Ev.now false
  · simp only [if_true, Bool.true_and]
    refine Ev.bind (specSystem n' p' t' b') ?_
    cases sysV n' p' t' b'
    · simpa using Ev.now false
    · simp only [if_true, Bool.true_and]; exact Ev.now _
theorem implProd : Ev (fun k => impl_isProduct.f k n p t b n' p' t' b') (prodV n p t b n' p' t' b') := by
  unfold impl_isProduct.f prodV
  refine Ev.bind (implSystem n p t b) ?_
  cases sysV n p t b
  · simpa using Ev.now false
  · simp only [if_true, Bool.true_and]
    refine Ev.bind (implSystem n' p' t' b') ?_
    cases sysV n' p' t' b'
    · simpa using Ev.now false
    · simp only [if_true, Bool.true_and]; exact Ev.now _
theorem prod_ok (h : prodV n p t b n' p' t' b' = true) : OK n p t b ∧ OK n' p' t' b' ∧ wrap64 (n * n') = n * n' ∧ ∃ x y : Nat, n = x ∧ n' = y ∧ x * y ≤ 16 ∧ n * n' = ((x * y : Nat) : Int) ∧ ∃ L, Two x y L := by
  unfold prodV at h
  rw [Bool.and_eq_true, Bool.and_eq_true, decide_eq_true_eq] at h
  have o := sysV_ok h.1
  have o' := sysV_ok h.2.1
  have l1 := o.lo; have l2 := o.hi; have l3 := o'.lo; have l4 := o'.hi
  obtain ⟨x, rfl⟩ := Int.eq_ofNat_of_zero_le (show 0 ≤ n by omega)
  obtain ⟨y, rfl⟩ := Int.eq_ofNat_of_zero_le (show 0 ≤ n' by omega)
  have e : (x : Int) * (y : Int) = ((x * y : Nat) : Int) := by push_cast; rfl
  have hm : x * y ≤ 16 * 16 := Nat.mul_le_mul (by omega) (by omega)
  have w : wrap64 ((x : Int) * (y : Int)) = (x : Int) * (y : Int) := w64 (by omega) (by omega)
  have h3 : x * y ≤ 16 := by have := h.2.2; rw [w, e] at this; omega
  exact ⟨o, o', w, x, y, rfl, rfl, h3, e, two_of (by omega) (by omega) h3⟩
end
end Go.Proofs.YtmcepfimcedocaaDoor.Pure
end
