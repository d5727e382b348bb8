-- Printed by this session's own program (wip/tools/mkprint.py) out of the translation. Not trusted: Lean checks it.
import Derived.Test.YtipfkicndjddgaaP0
import Derived.Test.YtipfkicndjddgaaM4
/-! short words -/
namespace Go.Proofs.Ytipfkicndjddgaa.P
open Go.RowKit Go.Proofs.YtipfkicndjddgaaW.PrintWords Go.Proofs.YtipfkicndjddgaaW.PrintLast Go.Proofs.YtipfkicndjddgaaW.PrintMore
attribute [local go_sem] max2_int min2_int max_two min_two max_three min_three max_four min_four   -- for this text's walks alone
set_option linter.unusedVariables false
set_option linter.unusedSimpArgs false

/-! ### spec_l1One: function 100 -/
def spec_l1One.f (a0_0 : Int) (l0_1 : List Int) (l0_2 : List Int) (l0_3 : List Bool) (a1 : Int) : Option (Bool) := (spec_l1Add.f a0_0 l0_1 l0_2 l0_3 0 a1).bind fun t158 => (if t158 = a1 then ((spec_l1Mul.f a0_0 l0_1 l0_2 l0_3 1 a1).bind fun t159 => (if t159 = a1 then ((spec_l1Mul.f a0_0 l0_1 l0_2 l0_3 a1 1).bind fun t160 => (if t160 = a1 then ((spec_l1Mul.f a0_0 l0_1 l0_2 l0_3 0 a1).bind fun t161 => (if t161 = 0 then ((spec_l1Mul.f a0_0 l0_1 l0_2 l0_3 a1 0).bind fun t162 => (if t162 = 0 then ((spec_l1Le.f a0_0 l0_1 l0_2 l0_3 a1 a1).bind fun t163 => (some t163)) else (some false))) else (some false))) else (some false))) else (some false))) else (some false))
set_option maxHeartbeats 8000000 in
set_option maxRecDepth 100000 in
theorem spec_l1One.calls (a0_0 : Int) (A0_1 : Option Addr) (c0_1 : Nat) (l0_1 : List Int) (A0_2 : Option Addr) (c0_2 : Nat) (l0_2 : List Int) (A0_3 : Option Addr) (c0_3 : Nat) (l0_3 : List Bool) (a1 : Int) (r : Bool) (w : World) (hr0_1 : Kd.C (Kd.int .i64) w A0_1 l0_1.length l0_1) (hc0_1 : l0_1.length ≤ c0_1) (hr0_2 : Kd.C (Kd.int .i64) w A0_2 l0_2.length l0_2) (hc0_2 : l0_2.length ≤ c0_2) (hr0_3 : Kd.C Kd.bool w A0_3 l0_3.length l0_3) (hc0_3 : l0_3.length ≤ c0_3) (h : spec_l1One.f a0_0 l0_1 l0_2 l0_3 a1 = some r) :
  Calls Try.prog 100 #[.agg #[.int .i64 a0_0, .slice A0_1 l0_1.length c0_1, .slice A0_2 l0_2.length c0_2, .slice A0_3 l0_3.length c0_3], .int .i64 a1] w fun e w' => e = .returned (.bool r) ∧ Below w.heap.size w w' := by
 have hu27 := Try.underlying27
 have HR0_1 := sd_ hr0_1
 have HC0_1 := sd_ hc0_1
 clear hr0_1 hc0_1
 have HR0_2 := sd_ hr0_2
 have HC0_2 := sd_ hc0_2
 clear hr0_2 hc0_2
 have HR0_3 := sd_ hr0_3
 have HC0_3 := sd_ hc0_3
 clear hr0_3 hc0_3
 have HB := sd_ (Below.refl w.heap.size w)
 have H : ((spec_l1Add.f a0_0 l0_1 l0_2 l0_3 0 a1).bind fun t158 => (if t158 = a1 then ((spec_l1Mul.f a0_0 l0_1 l0_2 l0_3 1 a1).bind fun t159 => (if t159 = a1 then ((spec_l1Mul.f a0_0 l0_1 l0_2 l0_3 a1 1).bind fun t160 => (if t160 = a1 then ((spec_l1Mul.f a0_0 l0_1 l0_2 l0_3 0 a1).bind fun t161 => (if t161 = 0 then ((spec_l1Mul.f a0_0 l0_1 l0_2 l0_3 a1 0).bind fun t162 => (if t162 = 0 then ((spec_l1Le.f a0_0 l0_1 l0_2 l0_3 a1 a1).bind fun t163 => (some t163)) else (some false))) else (some false))) else (some false))) else (some false))) else (some false))) = some r := h
 clear h
 replace H := Option.bind_eq_some_iff.mp H
 obtain ⟨t158, A30, H⟩ := H
 try dsimp only at H
 have A3 := sd_ A30
 clear A30
 by_cases c4 : t158 = a1
 ·rw [if_pos c4] at H
  have c4b0 : (t158 == a1) = true := beq_iff_eq.mpr c4
  have c4b1 : (t158 != a1) = false := bne_eq_false_iff_eq.mpr c4
  clear c4
  replace H := Option.bind_eq_some_iff.mp H
  obtain ⟨t159, A50, H⟩ := H
  try dsimp only at H
  have A5 := sd_ A50
  clear A50
  by_cases c6 : t159 = a1
  ·rw [if_pos c6] at H
   have c6b0 : (t159 == a1) = true := beq_iff_eq.mpr c6
   have c6b1 : (t159 != a1) = false := bne_eq_false_iff_eq.mpr c6
   clear c6
   replace H := Option.bind_eq_some_iff.mp H
   obtain ⟨t160, A70, H⟩ := H
   try dsimp only at H
   have A7 := sd_ A70
   clear A70
   by_cases c8 : t160 = a1
   ·rw [if_pos c8] at H
    have c8b0 : (t160 == a1) = true := beq_iff_eq.mpr c8
    have c8b1 : (t160 != a1) = false := bne_eq_false_iff_eq.mpr c8
    clear c8
    replace H := Option.bind_eq_some_iff.mp H
    obtain ⟨t161, A90, H⟩ := H
    try dsimp only at H
    have A9 := sd_ A90
    clear A90
    by_cases c10 : t161 = 0
    ·rw [if_pos c10] at H
     have c10b0 : (t161 == 0) = true := beq_iff_eq.mpr c10
     have c10b1 : (t161 != 0) = false := bne_eq_false_iff_eq.mpr c10
     clear c10
     replace H := Option.bind_eq_some_iff.mp H
     obtain ⟨t162, A110, H⟩ := H
     try dsimp only at H
     have A11 := sd_ A110
     clear A110
     by_cases c12 : t162 = 0
     ·rw [if_pos c12] at H
      have c12b0 : (t162 == 0) = true := beq_iff_eq.mpr c12
      have c12b1 : (t162 != 0) = false := bne_eq_false_iff_eq.mpr c12
      clear c12
      replace H := Option.bind_eq_some_iff.mp H
      obtain ⟨t163, A130, H⟩ := H
      try dsimp only at H
      have A13 := sd_ A130
      clear A130
      obtain rfl := Option.some.inj H
      go_enter Try.func100, Try.ntmps100
      go_wp2_with (first | ((with_reducible refine gate_dst (N := 2) rfl ?_); refine bx_ (N := 2) (cs := #[.int .i64 a0_0, .slice A0_1 l0_1.length c0_1, .slice A0_2 l0_2.length c0_2, .slice A0_3 l0_3.length c0_3]) (t := 27) ?_; intro gb157 hg w14 hbox hb; have BK157 := sd_ (hbox); have GW157 := sd_ (gs_ hg (bw0_ HB.out)); have GE157 := sd_ (gs_ hg (bw0_ HB.out)); replace HB := sd_ (below_step (bw0_ HB.out) hb); clear hb hbox hg; obtain ⟨hcz15_0, hcz15_1, hcz15_2, hcz15_3, hfz15_0, hfz15_1, hfz15_2, hfz15_3⟩ := bf4_ BK157.out) | ((with_reducible refine gate_callee (f := 40) rfl ?_); refine goesL_ (some 7) rfl rfl Try.func40 (by kernel_rfl) rfl #[.agg #[.int .i64 a0_0, .slice A0_1 l0_1.length c0_1, .slice A0_2 l0_2.length c0_2, .slice A0_3 l0_3.length c0_3], .int .i64 0, .int .i64 a1] rfl la_ ?_; (with_reducible refine (spec_l1Add.calls a0_0 _ _ l0_1 _ _ l0_2 _ _ l0_3 0 a1 t158 _ (kc_ HR0_1.out HB.out) HC0_1.out (kc_ HR0_2.out HB.out) HC0_2.out (kc_ HR0_3.out HB.out) HC0_3.out A3.out).mono ?_); rintro e w16 ⟨rfl, hb⟩; refine ⟨_, rfl, ?_⟩; replace BK157 := sd_ (bb_ BK157.out hb); replace HB := sd_ (below_step (bw1_ HB.out GE157.out) hb); (try clear hb); obtain ⟨hcz17_0, hcz17_1, hcz17_2, hcz17_3, hfz17_0, hfz17_1, hfz17_2, hfz17_3⟩ := bf4_ BK157.out) | (go_at_call 41; (with_reducible refine (spec_l1Mul.calls a0_0 _ _ l0_1 _ _ l0_2 _ _ l0_3 1 a1 t159 _ (kc_ HR0_1.out HB.out) HC0_1.out (kc_ HR0_2.out HB.out) HC0_2.out (kc_ HR0_3.out HB.out) HC0_3.out A5.out).mono ?_); rintro e w18 ⟨rfl, hb⟩; replace BK157 := sd_ (bb_ BK157.out hb); replace HB := sd_ (below_step (bw1_ HB.out GE157.out) hb); (try clear hb); obtain ⟨hcz19_0, hcz19_1, hcz19_2, hcz19_3, hfz19_0, hfz19_1, hfz19_2, hfz19_3⟩ := bf4_ BK157.out) | (go_at_call 41; (with_reducible refine (spec_l1Mul.calls a0_0 _ _ l0_1 _ _ l0_2 _ _ l0_3 a1 1 t160 _ (kc_ HR0_1.out HB.out) HC0_1.out (kc_ HR0_2.out HB.out) HC0_2.out (kc_ HR0_3.out HB.out) HC0_3.out A7.out).mono ?_); rintro e w20 ⟨rfl, hb⟩; replace BK157 := sd_ (bb_ BK157.out hb); replace HB := sd_ (below_step (bw1_ HB.out GE157.out) hb); (try clear hb); obtain ⟨hcz21_0, hcz21_1, hcz21_2, hcz21_3, hfz21_0, hfz21_1, hfz21_2, hfz21_3⟩ := bf4_ BK157.out) | (go_at_call 41; (with_reducible refine (spec_l1Mul.calls a0_0 _ _ l0_1 _ _ l0_2 _ _ l0_3 0 a1 t161 _ (kc_ HR0_1.out HB.out) HC0_1.out (kc_ HR0_2.out HB.out) HC0_2.out (kc_ HR0_3.out HB.out) HC0_3.out A9.out).mono ?_); rintro e w22 ⟨rfl, hb⟩; replace BK157 := sd_ (bb_ BK157.out hb); replace HB := sd_ (below_step (bw1_ HB.out GE157.out) hb); (try clear hb); obtain ⟨hcz23_0, hcz23_1, hcz23_2, hcz23_3, hfz23_0, hfz23_1, hfz23_2, hfz23_3⟩ := bf4_ BK157.out) | (go_at_call 41; (with_reducible refine (spec_l1Mul.calls a0_0 _ _ l0_1 _ _ l0_2 _ _ l0_3 a1 0 t162 _ (kc_ HR0_1.out HB.out) HC0_1.out (kc_ HR0_2.out HB.out) HC0_2.out (kc_ HR0_3.out HB.out) HC0_3.out A11.out).mono ?_); rintro e w24 ⟨rfl, hb⟩; replace BK157 := sd_ (bb_ BK157.out hb); replace HB := sd_ (below_step (bw1_ HB.out GE157.out) hb); (try clear hb); obtain ⟨hcz25_0, hcz25_1, hcz25_2, hcz25_3, hfz25_0, hfz25_1, hfz25_2, hfz25_3⟩ := bf4_ BK157.out) | (go_at_call 42; (with_reducible refine (spec_l1Le.calls a0_0 _ _ l0_1 _ _ l0_2 _ _ l0_3 a1 a1 t163 _ (kc_ HR0_1.out HB.out) HC0_1.out (kc_ HR0_2.out HB.out) HC0_2.out (kc_ HR0_3.out HB.out) HC0_3.out A13.out).mono ?_); rintro e w26 ⟨rfl, hb⟩; replace BK157 := sd_ (bb_ BK157.out hb); replace HB := sd_ (below_step (bw1_ HB.out GE157.out) hb); (try clear hb)))
      go_ret
      exact ⟨an_, bw1_ HB.out GE157.out⟩
     rw [if_neg c12] at H
     have c12b0 : (t162 == 0) = false := beq_eq_false_iff_ne.mpr c12
     have c12b1 : (t162 != 0) = true := bne_iff_ne.mpr c12
     obtain rfl := Option.some.inj H
     go_enter Try.func100, Try.ntmps100
     go_wp2_with (first | ((with_reducible refine gate_dst (N := 2) rfl ?_); refine bx_ (N := 2) (cs := #[.int .i64 a0_0, .slice A0_1 l0_1.length c0_1, .slice A0_2 l0_2.length c0_2, .slice A0_3 l0_3.length c0_3]) (t := 27) ?_; intro gb157 hg w27 hbox hb; have BK157 := sd_ (hbox); have GW157 := sd_ (gs_ hg (bw0_ HB.out)); have GE157 := sd_ (gs_ hg (bw0_ HB.out)); replace HB := sd_ (below_step (bw0_ HB.out) hb); clear hb hbox hg; obtain ⟨hcz28_0, hcz28_1, hcz28_2, hcz28_3, hfz28_0, hfz28_1, hfz28_2, hfz28_3⟩ := bf4_ BK157.out) | ((with_reducible refine gate_callee (f := 40) rfl ?_); refine goesL_ (some 7) rfl rfl Try.func40 (by kernel_rfl) rfl #[.agg #[.int .i64 a0_0, .slice A0_1 l0_1.length c0_1, .slice A0_2 l0_2.length c0_2, .slice A0_3 l0_3.length c0_3], .int .i64 0, .int .i64 a1] rfl la_ ?_; (with_reducible refine (spec_l1Add.calls a0_0 _ _ l0_1 _ _ l0_2 _ _ l0_3 0 a1 t158 _ (kc_ HR0_1.out HB.out) HC0_1.out (kc_ HR0_2.out HB.out) HC0_2.out (kc_ HR0_3.out HB.out) HC0_3.out A3.out).mono ?_); rintro e w29 ⟨rfl, hb⟩; refine ⟨_, rfl, ?_⟩; replace BK157 := sd_ (bb_ BK157.out hb); replace HB := sd_ (below_step (bw1_ HB.out GE157.out) hb); (try clear hb); obtain ⟨hcz30_0, hcz30_1, hcz30_2, hcz30_3, hfz30_0, hfz30_1, hfz30_2, hfz30_3⟩ := bf4_ BK157.out) | (go_at_call 41; (with_reducible refine (spec_l1Mul.calls a0_0 _ _ l0_1 _ _ l0_2 _ _ l0_3 1 a1 t159 _ (kc_ HR0_1.out HB.out) HC0_1.out (kc_ HR0_2.out HB.out) HC0_2.out (kc_ HR0_3.out HB.out) HC0_3.out A5.out).mono ?_); rintro e w31 ⟨rfl, hb⟩; replace BK157 := sd_ (bb_ BK157.out hb); replace HB := sd_ (below_step (bw1_ HB.out GE157.out) hb); (try clear hb); obtain ⟨hcz32_0, hcz32_1, hcz32_2, hcz32_3, hfz32_0, hfz32_1, hfz32_2, hfz32_3⟩ := bf4_ BK157.out) | (go_at_call 41; (with_reducible refine (spec_l1Mul.calls a0_0 _ _ l0_1 _ _ l0_2 _ _ l0_3 a1 1 t160 _ (kc_ HR0_1.out HB.out) HC0_1.out (kc_ HR0_2.out HB.out) HC0_2.out (kc_ HR0_3.out HB.out) HC0_3.out A7.out).mono ?_); rintro e w33 ⟨rfl, hb⟩; replace BK157 := sd_ (bb_ BK157.out hb); replace HB := sd_ (below_step (bw1_ HB.out GE157.out) hb); (try clear hb); obtain ⟨hcz34_0, hcz34_1, hcz34_2, hcz34_3, hfz34_0, hfz34_1, hfz34_2, hfz34_3⟩ := bf4_ BK157.out) | (go_at_call 41; (with_reducible refine (spec_l1Mul.calls a0_0 _ _ l0_1 _ _ l0_2 _ _ l0_3 0 a1 t161 _ (kc_ HR0_1.out HB.out) HC0_1.out (kc_ HR0_2.out HB.out) HC0_2.out (kc_ HR0_3.out HB.out) HC0_3.out A9.out).mono ?_); rintro e w35 ⟨rfl, hb⟩; replace BK157 := sd_ (bb_ BK157.out hb); replace HB := sd_ (below_step (bw1_ HB.out GE157.out) hb); (try clear hb); obtain ⟨hcz36_0, hcz36_1, hcz36_2, hcz36_3, hfz36_0, hfz36_1, hfz36_2, hfz36_3⟩ := bf4_ BK157.out) | (go_at_call 41; (with_reducible refine (spec_l1Mul.calls a0_0 _ _ l0_1 _ _ l0_2 _ _ l0_3 a1 0 t162 _ (kc_ HR0_1.out HB.out) HC0_1.out (kc_ HR0_2.out HB.out) HC0_2.out (kc_ HR0_3.out HB.out) HC0_3.out A11.out).mono ?_); rintro e w37 ⟨rfl, hb⟩; replace BK157 := sd_ (bb_ BK157.out hb); replace HB := sd_ (below_step (bw1_ HB.out GE157.out) hb); (try clear hb)))
     go_ret
     exact ⟨an_, bw1_ HB.out GE157.out⟩
    rw [if_neg c10] at H
    have c10b0 : (t161 == 0) = false := beq_eq_false_iff_ne.mpr c10
    have c10b1 : (t161 != 0) = true := bne_iff_ne.mpr c10
    obtain rfl := Option.some.inj H
    go_enter Try.func100, Try.ntmps100
    go_wp2_with (first | ((with_reducible refine gate_dst (N := 2) rfl ?_); refine bx_ (N := 2) (cs := #[.int .i64 a0_0, .slice A0_1 l0_1.length c0_1, .slice A0_2 l0_2.length c0_2, .slice A0_3 l0_3.length c0_3]) (t := 27) ?_; intro gb157 hg w38 hbox hb; have BK157 := sd_ (hbox); have GW157 := sd_ (gs_ hg (bw0_ HB.out)); have GE157 := sd_ (gs_ hg (bw0_ HB.out)); replace HB := sd_ (below_step (bw0_ HB.out) hb); clear hb hbox hg; obtain ⟨hcz39_0, hcz39_1, hcz39_2, hcz39_3, hfz39_0, hfz39_1, hfz39_2, hfz39_3⟩ := bf4_ BK157.out) | ((with_reducible refine gate_callee (f := 40) rfl ?_); refine goesL_ (some 7) rfl rfl Try.func40 (by kernel_rfl) rfl #[.agg #[.int .i64 a0_0, .slice A0_1 l0_1.length c0_1, .slice A0_2 l0_2.length c0_2, .slice A0_3 l0_3.length c0_3], .int .i64 0, .int .i64 a1] rfl la_ ?_; (with_reducible refine (spec_l1Add.calls a0_0 _ _ l0_1 _ _ l0_2 _ _ l0_3 0 a1 t158 _ (kc_ HR0_1.out HB.out) HC0_1.out (kc_ HR0_2.out HB.out) HC0_2.out (kc_ HR0_3.out HB.out) HC0_3.out A3.out).mono ?_); rintro e w40 ⟨rfl, hb⟩; refine ⟨_, rfl, ?_⟩; replace BK157 := sd_ (bb_ BK157.out hb); replace HB := sd_ (below_step (bw1_ HB.out GE157.out) hb); (try clear hb); obtain ⟨hcz41_0, hcz41_1, hcz41_2, hcz41_3, hfz41_0, hfz41_1, hfz41_2, hfz41_3⟩ := bf4_ BK157.out) | (go_at_call 41; (with_reducible refine (spec_l1Mul.calls a0_0 _ _ l0_1 _ _ l0_2 _ _ l0_3 1 a1 t159 _ (kc_ HR0_1.out HB.out) HC0_1.out (kc_ HR0_2.out HB.out) HC0_2.out (kc_ HR0_3.out HB.out) HC0_3.out A5.out).mono ?_); rintro e w42 ⟨rfl, hb⟩; replace BK157 := sd_ (bb_ BK157.out hb); replace HB := sd_ (below_step (bw1_ HB.out GE157.out) hb); (try clear hb); obtain ⟨hcz43_0, hcz43_1, hcz43_2, hcz43_3, hfz43_0, hfz43_1, hfz43_2, hfz43_3⟩ := bf4_ BK157.out) | (go_at_call 41; (with_reducible refine (spec_l1Mul.calls a0_0 _ _ l0_1 _ _ l0_2 _ _ l0_3 a1 1 t160 _ (kc_ HR0_1.out HB.out) HC0_1.out (kc_ HR0_2.out HB.out) HC0_2.out (kc_ HR0_3.out HB.out) HC0_3.out A7.out).mono ?_); rintro e w44 ⟨rfl, hb⟩; replace BK157 := sd_ (bb_ BK157.out hb); replace HB := sd_ (below_step (bw1_ HB.out GE157.out) hb); (try clear hb); obtain ⟨hcz45_0, hcz45_1, hcz45_2, hcz45_3, hfz45_0, hfz45_1, hfz45_2, hfz45_3⟩ := bf4_ BK157.out) | (go_at_call 41; (with_reducible refine (spec_l1Mul.calls a0_0 _ _ l0_1 _ _ l0_2 _ _ l0_3 0 a1 t161 _ (kc_ HR0_1.out HB.out) HC0_1.out (kc_ HR0_2.out HB.out) HC0_2.out (kc_ HR0_3.out HB.out) HC0_3.out A9.out).mono ?_); rintro e w46 ⟨rfl, hb⟩; replace BK157 := sd_ (bb_ BK157.out hb); replace HB := sd_ (below_step (bw1_ HB.out GE157.out) hb); (try clear hb)))
    go_ret
    exact ⟨an_, bw1_ HB.out GE157.out⟩
   rw [if_neg c8] at H
   have c8b0 : (t160 == a1) = false := beq_eq_false_iff_ne.mpr c8
   have c8b1 : (t160 != a1) = true := bne_iff_ne.mpr c8
   obtain rfl := Option.some.inj H
   go_enter Try.func100, Try.ntmps100
   go_wp2_with (first | ((with_reducible refine gate_dst (N := 2) rfl ?_); refine bx_ (N := 2) (cs := #[.int .i64 a0_0, .slice A0_1 l0_1.length c0_1, .slice A0_2 l0_2.length c0_2, .slice A0_3 l0_3.length c0_3]) (t := 27) ?_; intro gb157 hg w47 hbox hb; have BK157 := sd_ (hbox); have GW157 := sd_ (gs_ hg (bw0_ HB.out)); have GE157 := sd_ (gs_ hg (bw0_ HB.out)); replace HB := sd_ (below_step (bw0_ HB.out) hb); clear hb hbox hg; obtain ⟨hcz48_0, hcz48_1, hcz48_2, hcz48_3, hfz48_0, hfz48_1, hfz48_2, hfz48_3⟩ := bf4_ BK157.out) | ((with_reducible refine gate_callee (f := 40) rfl ?_); refine goesL_ (some 7) rfl rfl Try.func40 (by kernel_rfl) rfl #[.agg #[.int .i64 a0_0, .slice A0_1 l0_1.length c0_1, .slice A0_2 l0_2.length c0_2, .slice A0_3 l0_3.length c0_3], .int .i64 0, .int .i64 a1] rfl la_ ?_; (with_reducible refine (spec_l1Add.calls a0_0 _ _ l0_1 _ _ l0_2 _ _ l0_3 0 a1 t158 _ (kc_ HR0_1.out HB.out) HC0_1.out (kc_ HR0_2.out HB.out) HC0_2.out (kc_ HR0_3.out HB.out) HC0_3.out A3.out).mono ?_); rintro e w49 ⟨rfl, hb⟩; refine ⟨_, rfl, ?_⟩; replace BK157 := sd_ (bb_ BK157.out hb); replace HB := sd_ (below_step (bw1_ HB.out GE157.out) hb); (try clear hb); obtain ⟨hcz50_0, hcz50_1, hcz50_2, hcz50_3, hfz50_0, hfz50_1, hfz50_2, hfz50_3⟩ := bf4_ BK157.out) | (go_at_call 41; (with_reducible refine (spec_l1Mul.calls a0_0 _ _ l0_1 _ _ l0_2 _ _ l0_3 1 a1 t159 _ (kc_ HR0_1.out HB.out) HC0_1.out (kc_ HR0_2.out HB.out) HC0_2.out (kc_ HR0_3.out HB.out) HC0_3.out A5.out).mono ?_); rintro e w51 ⟨rfl, hb⟩; replace BK157 := sd_ (bb_ BK157.out hb); replace HB := sd_ (below_step (bw1_ HB.out GE157.out) hb); (try clear hb); obtain ⟨hcz52_0, hcz52_1, hcz52_2, hcz52_3, hfz52_0, hfz52_1, hfz52_2, hfz52_3⟩ := bf4_ BK157.out) | (go_at_call 41; (with_reducible refine (spec_l1Mul.calls a0_0 _ _ l0_1 _ _ l0_2 _ _ l0_3 a1 1 t160 _ (kc_ HR0_1.out HB.out) HC0_1.out (kc_ HR0_2.out HB.out) HC0_2.out (kc_ HR0_3.out HB.out) HC0_3.out A7.out).mono ?_); rintro e w53 ⟨rfl, hb⟩; replace BK157 := sd_ (bb_ BK157.out hb); replace HB := sd_ (below_step (bw1_ HB.out GE157.out) hb); (try clear hb)))
   go_ret
   exact ⟨an_, bw1_ HB.out GE157.out⟩
  rw [if_neg c6] at H
  have c6b0 : (t159 == a1) = false := beq_eq_false_iff_ne.mpr c6
  have c6b1 : (t159 != a1) = true := bne_iff_ne.mpr c6
  obtain rfl := Option.some.inj H
  go_enter Try.func100, Try.ntmps100
  go_wp2_with (first | ((with_reducible refine gate_dst (N := 2) rfl ?_); refine bx_ (N := 2) (cs := #[.int .i64 a0_0, .slice A0_1 l0_1.length c0_1, .slice A0_2 l0_2.length c0_2, .slice A0_3 l0_3.length c0_3]) (t := 27) ?_; intro gb157 hg w54 hbox hb; have BK157 := sd_ (hbox); have GW157 := sd_ (gs_ hg (bw0_ HB.out)); have GE157 := sd_ (gs_ hg (bw0_ HB.out)); replace HB := sd_ (below_step (bw0_ HB.out) hb); clear hb hbox hg; obtain ⟨hcz55_0, hcz55_1, hcz55_2, hcz55_3, hfz55_0, hfz55_1, hfz55_2, hfz55_3⟩ := bf4_ BK157.out) | ((with_reducible refine gate_callee (f := 40) rfl ?_); refine goesL_ (some 7) rfl rfl Try.func40 (by kernel_rfl) rfl #[.agg #[.int .i64 a0_0, .slice A0_1 l0_1.length c0_1, .slice A0_2 l0_2.length c0_2, .slice A0_3 l0_3.length c0_3], .int .i64 0, .int .i64 a1] rfl la_ ?_; (with_reducible refine (spec_l1Add.calls a0_0 _ _ l0_1 _ _ l0_2 _ _ l0_3 0 a1 t158 _ (kc_ HR0_1.out HB.out) HC0_1.out (kc_ HR0_2.out HB.out) HC0_2.out (kc_ HR0_3.out HB.out) HC0_3.out A3.out).mono ?_); rintro e w56 ⟨rfl, hb⟩; refine ⟨_, rfl, ?_⟩; replace BK157 := sd_ (bb_ BK157.out hb); replace HB := sd_ (below_step (bw1_ HB.out GE157.out) hb); (try clear hb); obtain ⟨hcz57_0, hcz57_1, hcz57_2, hcz57_3, hfz57_0, hfz57_1, hfz57_2, hfz57_3⟩ := bf4_ BK157.out) | (go_at_call 41; (with_reducible refine (spec_l1Mul.calls a0_0 _ _ l0_1 _ _ l0_2 _ _ l0_3 1 a1 t159 _ (kc_ HR0_1.out HB.out) HC0_1.out (kc_ HR0_2.out HB.out) HC0_2.out (kc_ HR0_3.out HB.out) HC0_3.out A5.out).mono ?_); rintro e w58 ⟨rfl, hb⟩; replace BK157 := sd_ (bb_ BK157.out hb); replace HB := sd_ (below_step (bw1_ HB.out GE157.out) hb); (try clear hb)))
  go_ret
  exact ⟨an_, bw1_ HB.out GE157.out⟩
 rw [if_neg c4] at H
 have c4b0 : (t158 == a1) = false := beq_eq_false_iff_ne.mpr c4
 have c4b1 : (t158 != a1) = true := bne_iff_ne.mpr c4
 obtain rfl := Option.some.inj H
 go_enter Try.func100, Try.ntmps100
 go_wp2_with (first | ((with_reducible refine gate_dst (N := 2) rfl ?_); refine bx_ (N := 2) (cs := #[.int .i64 a0_0, .slice A0_1 l0_1.length c0_1, .slice A0_2 l0_2.length c0_2, .slice A0_3 l0_3.length c0_3]) (t := 27) ?_; intro gb157 hg w59 hbox hb; have BK157 := sd_ (hbox); have GW157 := sd_ (gs_ hg (bw0_ HB.out)); have GE157 := sd_ (gs_ hg (bw0_ HB.out)); replace HB := sd_ (below_step (bw0_ HB.out) hb); clear hb hbox hg; obtain ⟨hcz60_0, hcz60_1, hcz60_2, hcz60_3, hfz60_0, hfz60_1, hfz60_2, hfz60_3⟩ := bf4_ BK157.out) | ((with_reducible refine gate_callee (f := 40) rfl ?_); refine goesL_ (some 7) rfl rfl Try.func40 (by kernel_rfl) rfl #[.agg #[.int .i64 a0_0, .slice A0_1 l0_1.length c0_1, .slice A0_2 l0_2.length c0_2, .slice A0_3 l0_3.length c0_3], .int .i64 0, .int .i64 a1] rfl la_ ?_; (with_reducible refine (spec_l1Add.calls a0_0 _ _ l0_1 _ _ l0_2 _ _ l0_3 0 a1 t158 _ (kc_ HR0_1.out HB.out) HC0_1.out (kc_ HR0_2.out HB.out) HC0_2.out (kc_ HR0_3.out HB.out) HC0_3.out A3.out).mono ?_); rintro e w61 ⟨rfl, hb⟩; refine ⟨_, rfl, ?_⟩; replace BK157 := sd_ (bb_ BK157.out hb); replace HB := sd_ (below_step (bw1_ HB.out GE157.out) hb); (try clear hb)))
 go_ret
 exact ⟨an_, bw1_ HB.out GE157.out⟩

end Go.Proofs.Ytipfkicndjddgaa.P
