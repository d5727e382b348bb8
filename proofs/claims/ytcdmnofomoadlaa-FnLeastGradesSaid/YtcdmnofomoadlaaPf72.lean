-- Printed by this session's own program (wip/tools/mkprint.py) out of the translation. Not trusted: Lean checks it.
import Derived.Test.YtcdmnofomoadlaaM1
import Derived.Test.YtcdmnofomoadlaaPf31
/-! short words -/
namespace Go.Proofs.Ytcdmnofomoadlaa.P
open Go.RowKit Go.Proofs.YtcdmnofomoadlaaW.PrintWords Go.Proofs.YtcdmnofomoadlaaW.PrintLast Go.Proofs.YtcdmnofomoadlaaW.PrintMore
attribute [local go_sem] max2_int min2_int max_two min_two max_three min_three max_four min_four   -- for this text's walks alone
set_option linter.unusedVariables false
set_option linter.unusedSimpArgs false

/-! ### impl_both: function 72 -/
def impl_both.f (k : Nat) (a0_0 : Int) (l0_1 : List Int) (l0_2 : List Int) (l0_3 : List Bool) (a1 : Int) (a2 : Int) : Option (Bool) := (impl_System_has.f a0_0 l0_1 l0_2 l0_3 a1).bind fun t645 => (if t645 = true then ((impl_System_has.f a0_0 l0_1 l0_2 l0_3 a2).bind fun t646 => (if t646 = true then ((impl_IsSystem.f k a0_0 l0_1 l0_2 l0_3).bind fun t647 => (some t647)) else (some false))) else (some false))
set_option maxHeartbeats 8000000 in
set_option maxRecDepth 100000 in
theorem impl_both.calls (k : Nat) (a0_0 : Int) (A0_1 : Option Addr) (c0_1 : Nat) (l0_1 : List Int) (A0_2 : Option Addr) (c0_2 : Nat) (l0_2 : List Int) (A0_3 : Option Addr) (c0_3 : Nat) (l0_3 : List Bool) (a1 : Int) (a2 : Int) (r : Bool) (w : World) (hr0_1 : Kd.C (Kd.int .i64) w A0_1 l0_1.length l0_1) (hc0_1 : l0_1.length ≤ c0_1) (hr0_2 : Kd.C (Kd.int .i64) w A0_2 l0_2.length l0_2) (hc0_2 : l0_2.length ≤ c0_2) (hr0_3 : Kd.C Kd.bool w A0_3 l0_3.length l0_3) (hc0_3 : l0_3.length ≤ c0_3) (h : impl_both.f k a0_0 l0_1 l0_2 l0_3 a1 a2 = some r) :
  Calls Try.prog 72 #[.agg #[.int .i64 a0_0, .slice A0_1 l0_1.length c0_1, .slice A0_2 l0_2.length c0_2, .slice A0_3 l0_3.length c0_3], .int .i64 a1, .int .i64 a2] w fun e w' => e = .returned (.bool r) ∧ Below w.heap.size w w' := by
 have hu27 := Try.underlying27
 have HR0_1 := sd_ hr0_1
 have HC0_1 := sd_ hc0_1
 clear hr0_1 hc0_1
 have HR0_2 := sd_ hr0_2
 have HC0_2 := sd_ hc0_2
 clear hr0_2 hc0_2
 have HR0_3 := sd_ hr0_3
 have HC0_3 := sd_ hc0_3
 clear hr0_3 hc0_3
 have HB := sd_ (Below.refl w.heap.size w)
 have H : ((impl_System_has.f a0_0 l0_1 l0_2 l0_3 a1).bind fun t645 => (if t645 = true then ((impl_System_has.f a0_0 l0_1 l0_2 l0_3 a2).bind fun t646 => (if t646 = true then ((impl_IsSystem.f k a0_0 l0_1 l0_2 l0_3).bind fun t647 => (some t647)) else (some false))) else (some false))) = some r := h
 clear h
 replace H := Option.bind_eq_some_iff.mp H
 obtain ⟨t645, A40, H⟩ := H
 try dsimp only at H
 have A4 := sd_ A40
 clear A40
 by_cases c5 : t645 = true
 ·subst c5
  have H1 : ((impl_System_has.f a0_0 l0_1 l0_2 l0_3 a2).bind fun t646 => (if t646 = true then ((impl_IsSystem.f k a0_0 l0_1 l0_2 l0_3).bind fun t647 => (some t647)) else (some false))) = some r := by rw [if_pos rfl] at H; exact H
  clear H
  have H := H1
  clear H1
  replace H := Option.bind_eq_some_iff.mp H
  obtain ⟨t646, A60, H⟩ := H
  try dsimp only at H
  have A6 := sd_ A60
  clear A60
  by_cases c7 : t646 = true
  ·subst c7
   have H1 : ((impl_IsSystem.f k a0_0 l0_1 l0_2 l0_3).bind fun t647 => (some t647)) = some r := by rw [if_pos rfl] at H; exact H
   clear H
   have H := H1
   clear H1
   replace H := Option.bind_eq_some_iff.mp H
   obtain ⟨t647, A80, H⟩ := H
   try dsimp only at H
   have A8 := sd_ A80
   clear A80
   obtain rfl := Option.some.inj H
   go_enter Try.func72, Try.ntmps72
   go_wp2_with (first | ((with_reducible refine gate_dst (N := 3) rfl ?_); refine bx_ (N := 3) (cs := #[.int .i64 a0_0, .slice A0_1 l0_1.length c0_1, .slice A0_2 l0_2.length c0_2, .slice A0_3 l0_3.length c0_3]) (t := 27) ?_; intro gb644 hg w9 hbox hb; have BK644 := sd_ (hbox); have GW644 := sd_ (gs_ hg (bw0_ HB.out)); have GE644 := sd_ (gs_ hg (bw0_ HB.out)); replace HB := sd_ (below_step (bw0_ HB.out) hb); clear hb hbox hg; obtain ⟨hcz10_0, hcz10_1, hcz10_2, hcz10_3, hfz10_0, hfz10_1, hfz10_2, hfz10_3⟩ := bf4_ BK644.out) | ((with_reducible refine gate_callee (f := 76) rfl ?_); refine goesL_ (some 9) rfl rfl Try.func76 (by kernel_rfl) rfl #[.agg #[.int .i64 a0_0, .slice A0_1 l0_1.length c0_1, .slice A0_2 l0_2.length c0_2, .slice A0_3 l0_3.length c0_3], .int .i64 a1] rfl la_ ?_; (with_reducible refine (impl_System_has.calls a0_0 _ _ l0_1 _ _ l0_2 _ _ l0_3 a1 true _ (kc_ HR0_1.out HB.out) HC0_1.out (kc_ HR0_2.out HB.out) HC0_2.out (kc_ HR0_3.out HB.out) HC0_3.out A4.out).mono ?_); rintro e w11 ⟨rfl, hb⟩; refine ⟨_, rfl, ?_⟩; replace BK644 := sd_ (bb_ BK644.out hb); replace HB := sd_ (below_step (bw1_ HB.out GE644.out) hb); (try clear hb); obtain ⟨hcz12_0, hcz12_1, hcz12_2, hcz12_3, hfz12_0, hfz12_1, hfz12_2, hfz12_3⟩ := bf4_ BK644.out) | (go_at_call 76; (with_reducible refine (impl_System_has.calls a0_0 _ _ l0_1 _ _ l0_2 _ _ l0_3 a2 true _ (kc_ HR0_1.out HB.out) HC0_1.out (kc_ HR0_2.out HB.out) HC0_2.out (kc_ HR0_3.out HB.out) HC0_3.out A6.out).mono ?_); rintro e w13 ⟨rfl, hb⟩; replace BK644 := sd_ (bb_ BK644.out hb); replace HB := sd_ (below_step (bw1_ HB.out GE644.out) hb); (try clear hb); obtain ⟨hcz14_0, hcz14_1, hcz14_2, hcz14_3, hfz14_0, hfz14_1, hfz14_2, hfz14_3⟩ := bf4_ BK644.out) | (go_at_call 31; (with_reducible refine (impl_IsSystem.calls k a0_0 _ _ l0_1 _ _ l0_2 _ _ l0_3 t647 _ (kc_ HR0_1.out HB.out) HC0_1.out (kc_ HR0_2.out HB.out) HC0_2.out (kc_ HR0_3.out HB.out) HC0_3.out A8.out).mono ?_); rintro e w15 ⟨rfl, hb⟩; replace BK644 := sd_ (bb_ BK644.out hb); replace HB := sd_ (below_step (bw1_ HB.out GE644.out) hb); (try clear hb)))
   go_ret
   exact ⟨an_, bw1_ HB.out GE644.out⟩
  replace c7 := Bool.eq_false_iff.mpr c7
  subst c7
  have H1 : (some false) = some r := by rw [if_neg (show ¬ (false = true) by decide)] at H; exact H
  clear H
  have H := H1
  clear H1
  obtain rfl := Option.some.inj H
  go_enter Try.func72, Try.ntmps72
  go_wp2_with (first | ((with_reducible refine gate_dst (N := 3) rfl ?_); refine bx_ (N := 3) (cs := #[.int .i64 a0_0, .slice A0_1 l0_1.length c0_1, .slice A0_2 l0_2.length c0_2, .slice A0_3 l0_3.length c0_3]) (t := 27) ?_; intro gb644 hg w16 hbox hb; have BK644 := sd_ (hbox); have GW644 := sd_ (gs_ hg (bw0_ HB.out)); have GE644 := sd_ (gs_ hg (bw0_ HB.out)); replace HB := sd_ (below_step (bw0_ HB.out) hb); clear hb hbox hg; obtain ⟨hcz17_0, hcz17_1, hcz17_2, hcz17_3, hfz17_0, hfz17_1, hfz17_2, hfz17_3⟩ := bf4_ BK644.out) | ((with_reducible refine gate_callee (f := 76) rfl ?_); refine goesL_ (some 9) rfl rfl Try.func76 (by kernel_rfl) rfl #[.agg #[.int .i64 a0_0, .slice A0_1 l0_1.length c0_1, .slice A0_2 l0_2.length c0_2, .slice A0_3 l0_3.length c0_3], .int .i64 a1] rfl la_ ?_; (with_reducible refine (impl_System_has.calls a0_0 _ _ l0_1 _ _ l0_2 _ _ l0_3 a1 true _ (kc_ HR0_1.out HB.out) HC0_1.out (kc_ HR0_2.out HB.out) HC0_2.out (kc_ HR0_3.out HB.out) HC0_3.out A4.out).mono ?_); rintro e w18 ⟨rfl, hb⟩; refine ⟨_, rfl, ?_⟩; replace BK644 := sd_ (bb_ BK644.out hb); replace HB := sd_ (below_step (bw1_ HB.out GE644.out) hb); (try clear hb); obtain ⟨hcz19_0, hcz19_1, hcz19_2, hcz19_3, hfz19_0, hfz19_1, hfz19_2, hfz19_3⟩ := bf4_ BK644.out) | (go_at_call 76; (with_reducible refine (impl_System_has.calls a0_0 _ _ l0_1 _ _ l0_2 _ _ l0_3 a2 false _ (kc_ HR0_1.out HB.out) HC0_1.out (kc_ HR0_2.out HB.out) HC0_2.out (kc_ HR0_3.out HB.out) HC0_3.out A6.out).mono ?_); rintro e w20 ⟨rfl, hb⟩; replace BK644 := sd_ (bb_ BK644.out hb); replace HB := sd_ (below_step (bw1_ HB.out GE644.out) hb); (try clear hb)))
  go_ret
  exact ⟨an_, bw1_ HB.out GE644.out⟩
 replace c5 := Bool.eq_false_iff.mpr c5
 subst c5
 have H1 : (some false) = some r := by rw [if_neg (show ¬ (false = true) by decide)] at H; exact H
 clear H
 have H := H1
 clear H1
 obtain rfl := Option.some.inj H
 go_enter Try.func72, Try.ntmps72
 go_wp2_with (first | ((with_reducible refine gate_dst (N := 3) rfl ?_); refine bx_ (N := 3) (cs := #[.int .i64 a0_0, .slice A0_1 l0_1.length c0_1, .slice A0_2 l0_2.length c0_2, .slice A0_3 l0_3.length c0_3]) (t := 27) ?_; intro gb644 hg w21 hbox hb; have BK644 := sd_ (hbox); have GW644 := sd_ (gs_ hg (bw0_ HB.out)); have GE644 := sd_ (gs_ hg (bw0_ HB.out)); replace HB := sd_ (below_step (bw0_ HB.out) hb); clear hb hbox hg; obtain ⟨hcz22_0, hcz22_1, hcz22_2, hcz22_3, hfz22_0, hfz22_1, hfz22_2, hfz22_3⟩ := bf4_ BK644.out) | ((with_reducible refine gate_callee (f := 76) rfl ?_); refine goesL_ (some 9) rfl rfl Try.func76 (by kernel_rfl) rfl #[.agg #[.int .i64 a0_0, .slice A0_1 l0_1.length c0_1, .slice A0_2 l0_2.length c0_2, .slice A0_3 l0_3.length c0_3], .int .i64 a1] rfl la_ ?_; (with_reducible refine (impl_System_has.calls a0_0 _ _ l0_1 _ _ l0_2 _ _ l0_3 a1 false _ (kc_ HR0_1.out HB.out) HC0_1.out (kc_ HR0_2.out HB.out) HC0_2.out (kc_ HR0_3.out HB.out) HC0_3.out A4.out).mono ?_); rintro e w23 ⟨rfl, hb⟩; refine ⟨_, rfl, ?_⟩; replace BK644 := sd_ (bb_ BK644.out hb); replace HB := sd_ (below_step (bw1_ HB.out GE644.out) hb); (try clear hb)))
 go_ret
 exact ⟨an_, bw1_ HB.out GE644.out⟩

end Go.Proofs.Ytcdmnofomoadlaa.P
