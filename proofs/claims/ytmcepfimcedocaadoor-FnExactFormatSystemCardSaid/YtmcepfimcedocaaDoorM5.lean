-- Several texts in one (wip/tools/merge.py).
import Derived.Test.YtmcepfimcedocaaDoorP0
import Derived.Test.YtmcepfimcedocaaDoorM4
import Derived.Test.YtmcepfimcedocaaDoorM1
section
/-! shorter words -/
namespace Go.Proofs.YtmcepfimcedocaaDoor.P
open Go.RowKit Go.Proofs.YtmcepfimcedocaaDoorW.PrintWords Go.Proofs.YtmcepfimcedocaaDoorW.PrintLast Go.Proofs.YtmcepfimcedocaaDoorW.PrintMore
attribute [local go_sem] max2_int min2_int max_two min_two max_three min_three max_four min_four   -- for this text's walks alone
set_option linter.unusedVariables false
set_option linter.unusedSimpArgs false

/-! ### spec_l1One: function 35 -/
def spec_l1One.f (a0_0 : Int) (l0_1 : List Int) (l0_2 : List Int) (l0_3 : List Bool) (a1 : Int) : Option (Bool) := (spec_l1Add.f a0_0 l0_1 l0_2 l0_3 0 a1).bind fun t118 => (if t118 = a1 then ((spec_l1Mul.f a0_0 l0_1 l0_2 l0_3 1 a1).bind fun t119 => (if t119 = a1 then ((spec_l1Mul.f a0_0 l0_1 l0_2 l0_3 a1 1).bind fun t120 => (if t120 = a1 then ((spec_l1Mul.f a0_0 l0_1 l0_2 l0_3 0 a1).bind fun t121 => (if t121 = 0 then ((spec_l1Mul.f a0_0 l0_1 l0_2 l0_3 a1 0).bind fun t122 => (if t122 = 0 then ((spec_l1Le.f a0_0 l0_1 l0_2 l0_3 a1 a1).bind fun t123 => (some t123)) else (some false))) else (some false))) else (some false))) else (some false))) else (some false))
set_option maxHeartbeats 8000000 in
set_option maxRecDepth 100000 in
theorem spec_l1One.calls (a0_0 : Int) (A0_1 : Option Addr) (c0_1 : Nat) (l0_1 : List Int) (A0_2 : Option Addr) (c0_2 : Nat) (l0_2 : List Int) (A0_3 : Option Addr) (c0_3 : Nat) (l0_3 : List Bool) (a1 : Int) (r : Bool) (w : World) (hr0_1 : Kd.C (Kd.int .i64) w A0_1 l0_1.length l0_1) (hc0_1 : l0_1.length ≤ c0_1) (hr0_2 : Kd.C (Kd.int .i64) w A0_2 l0_2.length l0_2) (hc0_2 : l0_2.length ≤ c0_2) (hr0_3 : Kd.C Kd.bool w A0_3 l0_3.length l0_3) (hc0_3 : l0_3.length ≤ c0_3) (h : spec_l1One.f a0_0 l0_1 l0_2 l0_3 a1 = some r) :
  Calls Tryd.prog 35 #[.agg #[.int .i64 a0_0, .slice A0_1 l0_1.length c0_1, .slice A0_2 l0_2.length c0_2, .slice A0_3 l0_3.length c0_3], .int .i64 a1] w fun e w' => e = .returned (.bool r) ∧ Below w.heap.size w w' := by
 have hu28 := Tryd.underlying28; have HR0_1 := sd_ hr0_1; have HC0_1 := sd_ hc0_1; clear hr0_1 hc0_1; have HR0_2 := sd_ hr0_2; have HC0_2 := sd_ hc0_2; clear hr0_2 hc0_2; have HR0_3 := sd_ hr0_3; have HC0_3 := sd_ hc0_3; clear hr0_3 hc0_3; have HB := sd_ (Below.refl w.heap.size w); have H : ((spec_l1Add.f a0_0 l0_1 l0_2 l0_3 0 a1).bind fun t118 => (if t118 = a1 then ((spec_l1Mul.f a0_0 l0_1 l0_2 l0_3 1 a1).bind fun t119 => (if t119 = a1 then ((spec_l1Mul.f a0_0 l0_1 l0_2 l0_3 a1 1).bind fun t120 => (if t120 = a1 then ((spec_l1Mul.f a0_0 l0_1 l0_2 l0_3 0 a1).bind fun t121 => (if t121 = 0 then ((spec_l1Mul.f a0_0 l0_1 l0_2 l0_3 a1 0).bind fun t122 => (if t122 = 0 then ((spec_l1Le.f a0_0 l0_1 l0_2 l0_3 a1 a1).bind fun t123 => (some t123)) else (some false))) else (some false))) else (some false))) else (some false))) else (some false))) = some r := h; clear h
 revert H; refine ob_ fun t118 A3 H => ?_
 by_cases c4 : t118 = a1
 ·rw [if_pos c4] at H; have c4b0 : (t118 == a1) = true := beq_iff_eq.mpr c4; have c4b1 : (t118 != a1) = false := bne_eq_false_iff_eq.mpr c4; clear c4
  revert H; refine ob_ fun t119 A5 H => ?_
  by_cases c6 : t119 = a1
  ·rw [if_pos c6] at H; have c6b0 : (t119 == a1) = true := beq_iff_eq.mpr c6; have c6b1 : (t119 != a1) = false := bne_eq_false_iff_eq.mpr c6; clear c6
   revert H; refine ob_ fun t120 A7 H => ?_
   by_cases c8 : t120 = a1
   ·rw [if_pos c8] at H; have c8b0 : (t120 == a1) = true := beq_iff_eq.mpr c8; have c8b1 : (t120 != a1) = false := bne_eq_false_iff_eq.mpr c8; clear c8
    revert H; refine ob_ fun t121 A9 H => ?_
    by_cases c10 : t121 = 0
    ·rw [if_pos c10] at H; have c10b0 : (t121 == 0) = true := beq_iff_eq.mpr c10; have c10b1 : (t121 != 0) = false := bne_eq_false_iff_eq.mpr c10; clear c10
     revert H; refine ob_ fun t122 A11 H => ?_
     by_cases c12 : t122 = 0
     ·rw [if_pos c12] at H; have c12b0 : (t122 == 0) = true := beq_iff_eq.mpr c12; have c12b1 : (t122 != 0) = false := bne_eq_false_iff_eq.mpr c12; clear c12
      revert H; refine ob_ fun t123 A13 H => ?_
      obtain rfl := Option.some.inj H; go_enter Tryd.func35, Tryd.ntmps35; go_wp2_with (first | ((with_reducible refine gate_dst (N := 2) rfl ?_); refine bx_ (N := 2) (cs := #[.int .i64 a0_0, .slice A0_1 l0_1.length c0_1, .slice A0_2 l0_2.length c0_2, .slice A0_3 l0_3.length c0_3]) (t := 28) ?_; intro gb117 hg w14 hbox hb; have BK117 := sd_ (hbox); have GW117 := sd_ (gs_ hg (bw0_ HB.out)); have GE117 := sd_ (gs_ hg (bw0_ HB.out)); replace HB := sd_ (below_step (bw0_ HB.out) hb); clear hb hbox hg; obtain ⟨z15_0, z15_1, z15_2, z15_3, f15_0, f15_1, f15_2, f15_3⟩ := bf4_ BK117.out) | ((with_reducible refine gate_callee (f := 47) rfl ?_); refine goesL_ (some 7) rfl rfl Tryd.func47 (by kernel_rfl) rfl #[.agg #[.int .i64 a0_0, .slice A0_1 l0_1.length c0_1, .slice A0_2 l0_2.length c0_2, .slice A0_3 l0_3.length c0_3], .int .i64 0, .int .i64 a1] rfl la_ ?_; (with_reducible refine (spec_l1Add.calls a0_0 _ _ l0_1 _ _ l0_2 _ _ l0_3 0 a1 t118 _ (kc_ HR0_1.out HB.out) HC0_1.out (kc_ HR0_2.out HB.out) HC0_2.out (kc_ HR0_3.out HB.out) HC0_3.out A3.out).mono ?_); rintro e w16 ⟨rfl, hb⟩; refine ⟨_, rfl, ?_⟩; replace BK117 := sd_ (bb_ BK117.out hb); replace HB := sd_ (below_step (bw1_ HB.out GE117.out) hb); (try clear hb); obtain ⟨z17_0, z17_1, z17_2, z17_3, f17_0, f17_1, f17_2, f17_3⟩ := bf4_ BK117.out) | (go_at_call 48; (with_reducible refine (spec_l1Mul.calls a0_0 _ _ l0_1 _ _ l0_2 _ _ l0_3 1 a1 t119 _ (kc_ HR0_1.out HB.out) HC0_1.out (kc_ HR0_2.out HB.out) HC0_2.out (kc_ HR0_3.out HB.out) HC0_3.out A5.out).mono ?_); rintro e w18 ⟨rfl, hb⟩; replace BK117 := sd_ (bb_ BK117.out hb); replace HB := sd_ (below_step (bw1_ HB.out GE117.out) hb); (try clear hb); obtain ⟨z19_0, z19_1, z19_2, z19_3, f19_0, f19_1, f19_2, f19_3⟩ := bf4_ BK117.out) | (go_at_call 48; (with_reducible refine (spec_l1Mul.calls a0_0 _ _ l0_1 _ _ l0_2 _ _ l0_3 a1 1 t120 _ (kc_ HR0_1.out HB.out) HC0_1.out (kc_ HR0_2.out HB.out) HC0_2.out (kc_ HR0_3.out HB.out) HC0_3.out A7.out).mono ?_); rintro e w20 ⟨rfl, hb⟩; replace BK117 := sd_ (bb_ BK117.out hb); replace HB := sd_ (below_step (bw1_ HB.out GE117.out) hb); (try clear hb); obtain ⟨z21_0, z21_1, z21_2, z21_3, f21_0, f21_1, f21_2, f21_3⟩ := bf4_ BK117.out) | (go_at_call 48; (with_reducible refine (spec_l1Mul.calls a0_0 _ _ l0_1 _ _ l0_2 _ _ l0_3 0 a1 t121 _ (kc_ HR0_1.out HB.out) HC0_1.out (kc_ HR0_2.out HB.out) HC0_2.out (kc_ HR0_3.out HB.out) HC0_3.out A9.out).mono ?_); rintro e w22 ⟨rfl, hb⟩; replace BK117 := sd_ (bb_ BK117.out hb); replace HB := sd_ (below_step (bw1_ HB.out GE117.out) hb); (try clear hb); obtain ⟨z23_0, z23_1, z23_2, z23_3, f23_0, f23_1, f23_2, f23_3⟩ := bf4_ BK117.out) | (go_at_call 48; (with_reducible refine (spec_l1Mul.calls a0_0 _ _ l0_1 _ _ l0_2 _ _ l0_3 a1 0 t122 _ (kc_ HR0_1.out HB.out) HC0_1.out (kc_ HR0_2.out HB.out) HC0_2.out (kc_ HR0_3.out HB.out) HC0_3.out A11.out).mono ?_); rintro e w24 ⟨rfl, hb⟩; replace BK117 := sd_ (bb_ BK117.out hb); replace HB := sd_ (below_step (bw1_ HB.out GE117.out) hb); (try clear hb); obtain ⟨z25_0, z25_1, z25_2, z25_3, f25_0, f25_1, f25_2, f25_3⟩ := bf4_ BK117.out) | (go_at_call 49; (with_reducible refine (spec_l1Le.calls a0_0 _ _ l0_1 _ _ l0_2 _ _ l0_3 a1 a1 t123 _ (kc_ HR0_1.out HB.out) HC0_1.out (kc_ HR0_2.out HB.out) HC0_2.out (kc_ HR0_3.out HB.out) HC0_3.out A13.out).mono ?_); rintro e w26 ⟨rfl, hb⟩; replace BK117 := sd_ (bb_ BK117.out hb); replace HB := sd_ (below_step (bw1_ HB.out GE117.out) hb); (try clear hb))); go_ret; exact ⟨an_, bw1_ HB.out GE117.out⟩
     rw [if_neg c12] at H; have c12b0 : (t122 == 0) = false := beq_eq_false_iff_ne.mpr c12; have c12b1 : (t122 != 0) = true := bne_iff_ne.mpr c12; obtain rfl := Option.some.inj H; go_enter Tryd.func35, Tryd.ntmps35; go_wp2_with (first | ((with_reducible refine gate_dst (N := 2) rfl ?_); refine bx_ (N := 2) (cs := #[.int .i64 a0_0, .slice A0_1 l0_1.length c0_1, .slice A0_2 l0_2.length c0_2, .slice A0_3 l0_3.length c0_3]) (t := 28) ?_; intro gb117 hg w27 hbox hb; have BK117 := sd_ (hbox); have GW117 := sd_ (gs_ hg (bw0_ HB.out)); have GE117 := sd_ (gs_ hg (bw0_ HB.out)); replace HB := sd_ (below_step (bw0_ HB.out) hb); clear hb hbox hg; obtain ⟨z28_0, z28_1, z28_2, z28_3, f28_0, f28_1, f28_2, f28_3⟩ := bf4_ BK117.out) | ((with_reducible refine gate_callee (f := 47) rfl ?_); refine goesL_ (some 7) rfl rfl Tryd.func47 (by kernel_rfl) rfl #[.agg #[.int .i64 a0_0, .slice A0_1 l0_1.length c0_1, .slice A0_2 l0_2.length c0_2, .slice A0_3 l0_3.length c0_3], .int .i64 0, .int .i64 a1] rfl la_ ?_; (with_reducible refine (spec_l1Add.calls a0_0 _ _ l0_1 _ _ l0_2 _ _ l0_3 0 a1 t118 _ (kc_ HR0_1.out HB.out) HC0_1.out (kc_ HR0_2.out HB.out) HC0_2.out (kc_ HR0_3.out HB.out) HC0_3.out A3.out).mono ?_); rintro e w29 ⟨rfl, hb⟩; refine ⟨_, rfl, ?_⟩; replace BK117 := sd_ (bb_ BK117.out hb); replace HB := sd_ (below_step (bw1_ HB.out GE117.out) hb); (try clear hb); obtain ⟨z30_0, z30_1, z30_2, z30_3, f30_0, f30_1, f30_2, f30_3⟩ := bf4_ BK117.out) | (go_at_call 48; (with_reducible refine (spec_l1Mul.calls a0_0 _ _ l0_1 _ _ l0_2 _ _ l0_3 1 a1 t119 _ (kc_ HR0_1.out HB.out) HC0_1.out (kc_ HR0_2.out HB.out) HC0_2.out (kc_ HR0_3.out HB.out) HC0_3.out A5.out).mono ?_); rintro e w31 ⟨rfl, hb⟩; replace BK117 := sd_ (bb_ BK117.out hb); replace HB := sd_ (below_step (bw1_ HB.out GE117.out) hb); (try clear hb); obtain ⟨z32_0, z32_1, z32_2, z32_3, f32_0, f32_1, f32_2, f32_3⟩ := bf4_ BK117.out) | (go_at_call 48; (with_reducible refine (spec_l1Mul.calls a0_0 _ _ l0_1 _ _ l0_2 _ _ l0_3 a1 1 t120 _ (kc_ HR0_1.out HB.out) HC0_1.out (kc_ HR0_2.out HB.out) HC0_2.out (kc_ HR0_3.out HB.out) HC0_3.out A7.out).mono ?_); rintro e w33 ⟨rfl, hb⟩; replace BK117 := sd_ (bb_ BK117.out hb); replace HB := sd_ (below_step (bw1_ HB.out GE117.out) hb); (try clear hb); obtain ⟨z34_0, z34_1, z34_2, z34_3, f34_0, f34_1, f34_2, f34_3⟩ := bf4_ BK117.out) | (go_at_call 48; (with_reducible refine (spec_l1Mul.calls a0_0 _ _ l0_1 _ _ l0_2 _ _ l0_3 0 a1 t121 _ (kc_ HR0_1.out HB.out) HC0_1.out (kc_ HR0_2.out HB.out) HC0_2.out (kc_ HR0_3.out HB.out) HC0_3.out A9.out).mono ?_); rintro e w35 ⟨rfl, hb⟩; replace BK117 := sd_ (bb_ BK117.out hb); replace HB := sd_ (below_step (bw1_ HB.out GE117.out) hb); (try clear hb); obtain ⟨z36_0, z36_1, z36_2, z36_3, f36_0, f36_1, f36_2, f36_3⟩ := bf4_ BK117.out) | (go_at_call 48; (with_reducible refine (spec_l1Mul.calls a0_0 _ _ l0_1 _ _ l0_2 _ _ l0_3 a1 0 t122 _ (kc_ HR0_1.out HB.out) HC0_1.out (kc_ HR0_2.out HB.out) HC0_2.out (kc_ HR0_3.out HB.out) HC0_3.out A11.out).mono ?_); rintro e w37 ⟨rfl, hb⟩; replace BK117 := sd_ (bb_ BK117.out hb); replace HB := sd_ (below_step (bw1_ HB.out GE117.out) hb); (try clear hb))); go_ret; exact ⟨an_, bw1_ HB.out GE117.out⟩
    rw [if_neg c10] at H; have c10b0 : (t121 == 0) = false := beq_eq_false_iff_ne.mpr c10; have c10b1 : (t121 != 0) = true := bne_iff_ne.mpr c10; obtain rfl := Option.some.inj H; go_enter Tryd.func35, Tryd.ntmps35; go_wp2_with (first | ((with_reducible refine gate_dst (N := 2) rfl ?_); refine bx_ (N := 2) (cs := #[.int .i64 a0_0, .slice A0_1 l0_1.length c0_1, .slice A0_2 l0_2.length c0_2, .slice A0_3 l0_3.length c0_3]) (t := 28) ?_; intro gb117 hg w38 hbox hb; have BK117 := sd_ (hbox); have GW117 := sd_ (gs_ hg (bw0_ HB.out)); have GE117 := sd_ (gs_ hg (bw0_ HB.out)); replace HB := sd_ (below_step (bw0_ HB.out) hb); clear hb hbox hg; obtain ⟨z39_0, z39_1, z39_2, z39_3, f39_0, f39_1, f39_2, f39_3⟩ := bf4_ BK117.out) | ((with_reducible refine gate_callee (f := 47) rfl ?_); refine goesL_ (some 7) rfl rfl Tryd.func47 (by kernel_rfl) rfl #[.agg #[.int .i64 a0_0, .slice A0_1 l0_1.length c0_1, .slice A0_2 l0_2.length c0_2, .slice A0_3 l0_3.length c0_3], .int .i64 0, .int .i64 a1] rfl la_ ?_; (with_reducible refine (spec_l1Add.calls a0_0 _ _ l0_1 _ _ l0_2 _ _ l0_3 0 a1 t118 _ (kc_ HR0_1.out HB.out) HC0_1.out (kc_ HR0_2.out HB.out) HC0_2.out (kc_ HR0_3.out HB.out) HC0_3.out A3.out).mono ?_); rintro e w40 ⟨rfl, hb⟩; refine ⟨_, rfl, ?_⟩; replace BK117 := sd_ (bb_ BK117.out hb); replace HB := sd_ (below_step (bw1_ HB.out GE117.out) hb); (try clear hb); obtain ⟨z41_0, z41_1, z41_2, z41_3, f41_0, f41_1, f41_2, f41_3⟩ := bf4_ BK117.out) | (go_at_call 48; (with_reducible refine (spec_l1Mul.calls a0_0 _ _ l0_1 _ _ l0_2 _ _ l0_3 1 a1 t119 _ (kc_ HR0_1.out HB.out) HC0_1.out (kc_ HR0_2.out HB.out) HC0_2.out (kc_ HR0_3.out HB.out) HC0_3.out A5.out).mono ?_); rintro e w42 ⟨rfl, hb⟩; replace BK117 := sd_ (bb_ BK117.out hb); replace HB := sd_ (below_step (bw1_ HB.out GE117.out) hb); (try clear hb); obtain ⟨z43_0, z43_1, z43_2, z43_3, f43_0, f43_1, f43_2, f43_3⟩ := bf4_ BK117.out) | (go_at_call 48; (with_reducible refine (spec_l1Mul.calls a0_0 _ _ l0_1 _ _ l0_2 _ _ l0_3 a1 1 t120 _ (kc_ HR0_1.out HB.out) HC0_1.out (kc_ HR0_2.out HB.out) HC0_2.out (kc_ HR0_3.out HB.out) HC0_3.out A7.out).mono ?_); rintro e w44 ⟨rfl, hb⟩; replace BK117 := sd_ (bb_ BK117.out hb); replace HB := sd_ (below_step (bw1_ HB.out GE117.out) hb); (try clear hb); obtain ⟨z45_0, z45_1, z45_2, z45_3, f45_0, f45_1, f45_2, f45_3⟩ := bf4_ BK117.out) | (go_at_call 48; (with_reducible refine (spec_l1Mul.calls a0_0 _ _ l0_1 _ _ l0_2 _ _ l0_3 0 a1 t121 _ (kc_ HR0_1.out HB.out) HC0_1.out (kc_ HR0_2.out HB.out) HC0_2.out (kc_ HR0_3.out HB.out) HC0_3.out A9.out).mono ?_); rintro e w46 ⟨rfl, hb⟩; replace BK117 := sd_ (bb_ BK117.out hb); replace HB := sd_ (below_step (bw1_ HB.out GE117.out) hb); (try clear hb))); go_ret; exact ⟨an_, bw1_ HB.out GE117.out⟩
   rw [if_neg c8] at H; have c8b0 : (t120 == a1) = false := beq_eq_false_iff_ne.mpr c8; have c8b1 : (t120 != a1) = true := bne_iff_ne.mpr c8; obtain rfl := Option.some.inj H; go_enter Tryd.func35, Tryd.ntmps35; go_wp2_with (first | ((with_reducible refine gate_dst (N := 2) rfl ?_); refine bx_ (N := 2) (cs := #[.int .i64 a0_0, .slice A0_1 l0_1.length c0_1, .slice A0_2 l0_2.length c0_2, .slice A0_3 l0_3.length c0_3]) (t := 28) ?_; intro gb117 hg w47 hbox hb; have BK117 := sd_ (hbox); have GW117 := sd_ (gs_ hg (bw0_ HB.out)); have GE117 := sd_ (gs_ hg (bw0_ HB.out)); replace HB := sd_ (below_step (bw0_ HB.out) hb); clear hb hbox hg; obtain ⟨z48_0, z48_1, z48_2, z48_3, f48_0, f48_1, f48_2, f48_3⟩ := bf4_ BK117.out) | ((with_reducible refine gate_callee (f := 47) rfl ?_); refine goesL_ (some 7) rfl rfl Tryd.func47 (by kernel_rfl) rfl #[.agg #[.int .i64 a0_0, .slice A0_1 l0_1.length c0_1, .slice A0_2 l0_2.length c0_2, .slice A0_3 l0_3.length c0_3], .int .i64 0, .int .i64 a1] rfl la_ ?_; (with_reducible refine (spec_l1Add.calls a0_0 _ _ l0_1 _ _ l0_2 _ _ l0_3 0 a1 t118 _ (kc_ HR0_1.out HB.out) HC0_1.out (kc_ HR0_2.out HB.out) HC0_2.out (kc_ HR0_3.out HB.out) HC0_3.out A3.out).mono ?_); rintro e w49 ⟨rfl, hb⟩; refine ⟨_, rfl, ?_⟩; replace BK117 := sd_ (bb_ BK117.out hb); replace HB := sd_ (below_step (bw1_ HB.out GE117.out) hb); (try clear hb); obtain ⟨z50_0, z50_1, z50_2, z50_3, f50_0, f50_1, f50_2, f50_3⟩ := bf4_ BK117.out) | (go_at_call 48; (with_reducible refine (spec_l1Mul.calls a0_0 _ _ l0_1 _ _ l0_2 _ _ l0_3 1 a1 t119 _ (kc_ HR0_1.out HB.out) HC0_1.out (kc_ HR0_2.out HB.out) HC0_2.out (kc_ HR0_3.out HB.out) HC0_3.out A5.out).mono ?_); rintro e w51 ⟨rfl, hb⟩; replace BK117 := sd_ (bb_ BK117.out hb); replace HB := sd_ (below_step (bw1_ HB.out GE117.out) hb); (try clear hb); obtain ⟨z52_0, z52_1, z52_2, z52_3, f52_0, f52_1, f52_2, f52_3⟩ := bf4_ BK117.out) | (go_at_call 48; (with_reducible refine (spec_l1Mul.calls a0_0 _ _ l0_1 _ _ l0_2 _ _ l0_3 a1 1 t120 _ (kc_ HR0_1.out HB.out) HC0_1.out (kc_ HR0_2.out HB.out) HC0_2.out (kc_ HR0_3.out HB.out) HC0_3.out A7.out).mono ?_); rintro e w53 ⟨rfl, hb⟩; replace BK117 := sd_ (bb_ BK117.out hb); replace HB := sd_ (below_step (bw1_ HB.out GE117.out) hb); (try clear hb))); go_ret; exact ⟨an_, bw1_ HB.out GE117.out⟩
  rw [if_neg c6] at H; have c6b0 : (t119 == a1) = false := beq_eq_false_iff_ne.mpr c6; have c6b1 : (t119 != a1) = true := bne_iff_ne.mpr c6; obtain rfl := Option.some.inj H; go_enter Tryd.func35, Tryd.ntmps35; go_wp2_with (first | ((with_reducible refine gate_dst (N := 2) rfl ?_); refine bx_ (N := 2) (cs := #[.int .i64 a0_0, .slice A0_1 l0_1.length c0_1, .slice A0_2 l0_2.length c0_2, .slice A0_3 l0_3.length c0_3]) (t := 28) ?_; intro gb117 hg w54 hbox hb; have BK117 := sd_ (hbox); have GW117 := sd_ (gs_ hg (bw0_ HB.out)); have GE117 := sd_ (gs_ hg (bw0_ HB.out)); replace HB := sd_ (below_step (bw0_ HB.out) hb); clear hb hbox hg; obtain ⟨z55_0, z55_1, z55_2, z55_3, f55_0, f55_1, f55_2, f55_3⟩ := bf4_ BK117.out) | ((with_reducible refine gate_callee (f := 47) rfl ?_); refine goesL_ (some 7) rfl rfl Tryd.func47 (by kernel_rfl) rfl #[.agg #[.int .i64 a0_0, .slice A0_1 l0_1.length c0_1, .slice A0_2 l0_2.length c0_2, .slice A0_3 l0_3.length c0_3], .int .i64 0, .int .i64 a1] rfl la_ ?_; (with_reducible refine (spec_l1Add.calls a0_0 _ _ l0_1 _ _ l0_2 _ _ l0_3 0 a1 t118 _ (kc_ HR0_1.out HB.out) HC0_1.out (kc_ HR0_2.out HB.out) HC0_2.out (kc_ HR0_3.out HB.out) HC0_3.out A3.out).mono ?_); rintro e w56 ⟨rfl, hb⟩; refine ⟨_, rfl, ?_⟩; replace BK117 := sd_ (bb_ BK117.out hb); replace HB := sd_ (below_step (bw1_ HB.out GE117.out) hb); (try clear hb); obtain ⟨z57_0, z57_1, z57_2, z57_3, f57_0, f57_1, f57_2, f57_3⟩ := bf4_ BK117.out) | (go_at_call 48; (with_reducible refine (spec_l1Mul.calls a0_0 _ _ l0_1 _ _ l0_2 _ _ l0_3 1 a1 t119 _ (kc_ HR0_1.out HB.out) HC0_1.out (kc_ HR0_2.out HB.out) HC0_2.out (kc_ HR0_3.out HB.out) HC0_3.out A5.out).mono ?_); rintro e w58 ⟨rfl, hb⟩; replace BK117 := sd_ (bb_ BK117.out hb); replace HB := sd_ (below_step (bw1_ HB.out GE117.out) hb); (try clear hb))); go_ret; exact ⟨an_, bw1_ HB.out GE117.out⟩
 rw [if_neg c4] at H; have c4b0 : (t118 == a1) = false := beq_eq_false_iff_ne.mpr c4; have c4b1 : (t118 != a1) = true := bne_iff_ne.mpr c4; obtain rfl := Option.some.inj H; go_enter Tryd.func35, Tryd.ntmps35; go_wp2_with (first | ((with_reducible refine gate_dst (N := 2) rfl ?_); refine bx_ (N := 2) (cs := #[.int .i64 a0_0, .slice A0_1 l0_1.length c0_1, .slice A0_2 l0_2.length c0_2, .slice A0_3 l0_3.length c0_3]) (t := 28) ?_; intro gb117 hg w59 hbox hb; have BK117 := sd_ (hbox); have GW117 := sd_ (gs_ hg (bw0_ HB.out)); have GE117 := sd_ (gs_ hg (bw0_ HB.out)); replace HB := sd_ (below_step (bw0_ HB.out) hb); clear hb hbox hg; obtain ⟨z60_0, z60_1, z60_2, z60_3, f60_0, f60_1, f60_2, f60_3⟩ := bf4_ BK117.out) | ((with_reducible refine gate_callee (f := 47) rfl ?_); refine goesL_ (some 7) rfl rfl Tryd.func47 (by kernel_rfl) rfl #[.agg #[.int .i64 a0_0, .slice A0_1 l0_1.length c0_1, .slice A0_2 l0_2.length c0_2, .slice A0_3 l0_3.length c0_3], .int .i64 0, .int .i64 a1] rfl la_ ?_; (with_reducible refine (spec_l1Add.calls a0_0 _ _ l0_1 _ _ l0_2 _ _ l0_3 0 a1 t118 _ (kc_ HR0_1.out HB.out) HC0_1.out (kc_ HR0_2.out HB.out) HC0_2.out (kc_ HR0_3.out HB.out) HC0_3.out A3.out).mono ?_); rintro e w61 ⟨rfl, hb⟩; refine ⟨_, rfl, ?_⟩; replace BK117 := sd_ (bb_ BK117.out hb); replace HB := sd_ (below_step (bw1_ HB.out GE117.out) hb); (try clear hb))); go_ret; exact ⟨an_, bw1_ HB.out GE117.out⟩

/-! ### slices_Equal_int_int: function 54 -/
def slices_Equal_int_int.l0 : Nat → List Int → List Int → Int → Int → Option (Bool)
 | 0, _, _, _, _ => none
 | k + 1, x0, x1, x12, x13 => if x13 < x12 then (if 0 ≤ x13 then (if x13 < (x0.length : Int) then (if x13 < (x1.length : Int) then (if (rd x0 x13) = (rd x1 x13) then (slices_Equal_int_int.l0 k x0 x1 x12 (wrap64 (x13 + 1))) else (some false)) else (none)) else (none)) else (none)) else (some true)
def slices_Equal_int_int.f (k : Nat) (l0 : List Int) (l1 : List Int) : Option (Bool) := if (l0.length : Int) = (l1.length : Int) then (slices_Equal_int_int.l0 k l0 l1 (l0.length : Int) 0) else (some false)
set_option maxHeartbeats 8000000 in
set_option maxRecDepth 100000 in
theorem slices_Equal_int_int.calls (k : Nat) (A0 : Option Addr) (c0 : Nat) (l0 : List Int) (A1 : Option Addr) (c1 : Nat) (l1 : List Int) (r : Bool) (w : World) (hr0 : Kd.C (Kd.int .i64) w A0 l0.length l0) (hc0 : l0.length ≤ c0) (hr1 : Kd.C (Kd.int .i64) w A1 l1.length l1) (hc1 : l1.length ≤ c1) (h : slices_Equal_int_int.f k l0 l1 = some r) :
  Calls Tryd.prog 54 #[.slice A0 l0.length c0, .slice A1 l1.length c1] w fun e w' => e = .returned (.bool r) ∧ Drawn0 w w' := by
 have HR0 := sd_ hr0; have HC0 := sd_ hc0; clear hr0 hc0; have HR1 := sd_ hr1; have HC1 := sd_ hc1; clear hr1 hc1; have H : (if (l0.length : Int) = (l1.length : Int) then (slices_Equal_int_int.l0 k l0 l1 (l0.length : Int) 0) else (some false)) = some r := h; clear h; by_cases c3 : (l0.length : Int) = (l1.length : Int)
 ·rw [if_pos c3] at H; have c3b0 : ((l0.length : Int) == (l1.length : Int)) = true := beq_iff_eq.mpr c3; have c3b1 : ((l0.length : Int) != (l1.length : Int)) = false := bne_eq_false_iff_eq.mpr c3
  have c3b2 : (l0.length == l1.length) = true := by first | simpa using c3 | (simp at c3 ⊢; omega)
  clear c3; have H' := sd_ H; clear H; go_enter Tryd.func54, Tryd.ntmps54; go_wp2
  repeat (go_quiet (fail); try go_wp2)
  go_loopg [13] k (fun kq v13 w' => ∃ (x13_1 : Int), v13 = .int .i64 x13_1 ∧ Aside0 (slices_Equal_int_int.l0 kq l0 l1 (l0.length : Int) x13_1 = some r) ∧ Aside0 (kq ≤ k) ∧ Drawn0 w w')
  case atStart => exact ⟨(0), sm_, H', ⟨Nat.le_refl _⟩, by repeat (first | exact Drawn0.refl _ | apply Drawn0.step)⟩
  case round =>
   clear H'; (try clear c1); (try clear p2); (try clear c3); (try clear c3b0); (try clear c3b1); (try clear c3b2); obtain ⟨x13_1, rfl, HA, HK1, ⟨m1, rfl⟩⟩ := hrel
   cases gk with
   | zero => exact absurd HA.out (by simp [slices_Equal_int_int.l0])
   | succ k1 =>
    have H := HA.out; clear HA; simp only [slices_Equal_int_int.l0] at H; revert H; refine ic_ (fun c4b0 H => ?_) (fun c4b0 H => ?_)
    ·revert H; refine ih_ fun c5b0 H => ?_
     revert H; refine ih_ fun c6b0 H => ?_
     revert H; refine ih_ fun c7b0 H => ?_
     by_cases c8 : (rd l0 x13_1) = (rd l1 x13_1)
     ·rw [if_pos c8] at H; have c8b0 : ((rd l0 x13_1) == (rd l1 x13_1)) = true := beq_iff_eq.mpr c8; have c8b1 : ((rd l0 x13_1) != (rd l1 x13_1)) = false := bne_eq_false_iff_eq.mpr c8; clear c8; have H' := sd_ H; clear H; have p539 : 0 ≤ (x13_1 : Int) := dt_; have q539 : x13_1 < (l0.length : Int) := dt_; obtain ⟨ad539, e539, hx539_0⟩ := Kd.at_int HR0.out x13_1 p539 q539
      cases e539
      replace p539 := eq_true p539; replace q539 := eq_true q539; have p540 : 0 ≤ (x13_1 : Int) := dt_; have q540 : x13_1 < (l1.length : Int) := dt_; obtain ⟨ad540, e540, hx540_0⟩ := Kd.at_int HR1.out x13_1 p540 q540
      cases e540
      replace p540 := eq_true p540; replace q540 := eq_true q540; go_wp2
      repeat (go_quiet (fail); try go_wp2)
      go_roundg k1
      case measure => have := HK1.out; omega
      case rel => exact ⟨(wrap64 (x13_1 + 1)), sm_, H', ⟨by have := HK1.out; omega⟩, by repeat (first | exact Drawn0.refl _ | apply Drawn0.step)⟩
     rw [if_neg c8] at H; have c8b0 : ((rd l0 x13_1) == (rd l1 x13_1)) = false := beq_eq_false_iff_ne.mpr c8; have c8b1 : ((rd l0 x13_1) != (rd l1 x13_1)) = true := bne_iff_ne.mpr c8; obtain rfl := Option.some.inj H; have p539 : 0 ≤ (x13_1 : Int) := dt_; have q539 : x13_1 < (l0.length : Int) := dt_; obtain ⟨ad539, e539, hx539_0⟩ := Kd.at_int HR0.out x13_1 p539 q539
     cases e539
     replace p539 := eq_true p539; replace q539 := eq_true q539; have p540 : 0 ≤ (x13_1 : Int) := dt_; have q540 : x13_1 < (l1.length : Int) := dt_; obtain ⟨ad540, e540, hx540_0⟩ := Kd.at_int HR1.out x13_1 p540 q540
     cases e540
     replace p540 := eq_true p540; replace q540 := eq_true q540; go_wp2
     repeat (go_quiet (fail); try go_wp2)
     go_ret; exact ⟨by first | rfl | (simp; done) | (simp [*]; done), by repeat (first | exact Drawn0.refl _ | apply Drawn0.step)⟩
    obtain rfl := Option.some.inj H; go_wp2
    repeat (go_quiet (fail); try go_wp2)
    go_ret; exact ⟨by first | rfl | (simp; done) | (simp [*]; done), by repeat (first | exact Drawn0.refl _ | apply Drawn0.step)⟩
 rw [if_neg c3] at H; have c3b0 : ((l0.length : Int) == (l1.length : Int)) = false := beq_eq_false_iff_ne.mpr c3; have c3b1 : ((l0.length : Int) != (l1.length : Int)) = true := bne_iff_ne.mpr c3
 have c3b2 : (l0.length == l1.length) = false := by first | simpa using c3 | (simp at c3 ⊢; omega)
 obtain rfl := Option.some.inj H; go_enter Tryd.func54, Tryd.ntmps54; go_wp2
 repeat (go_quiet (fail); try go_wp2)
 go_ret; exact ⟨by first | rfl | (simp; done) | (simp [*]; done), by repeat (first | exact Drawn0.refl _ | apply Drawn0.step)⟩

/-! ### slices_Equal_bool_bool: function 55 -/
def slices_Equal_bool_bool.l0 : Nat → List Bool → List Bool → Int → Int → Option (Bool)
 | 0, _, _, _, _ => none
 | k + 1, x0, x1, x12, x13 => if x13 < x12 then (if 0 ≤ x13 then (if x13 < (x0.length : Int) then (if x13 < (x1.length : Int) then (if ((rdOf false x0 x13) != (rdOf false x1 x13)) = true then (some false) else (slices_Equal_bool_bool.l0 k x0 x1 x12 (wrap64 (x13 + 1)))) else (none)) else (none)) else (none)) else (some true)
def slices_Equal_bool_bool.f (k : Nat) (l0 : List Bool) (l1 : List Bool) : Option (Bool) := if (l0.length : Int) = (l1.length : Int) then (slices_Equal_bool_bool.l0 k l0 l1 (l0.length : Int) 0) else (some false)
set_option maxHeartbeats 8000000 in
set_option maxRecDepth 100000 in
theorem slices_Equal_bool_bool.calls (k : Nat) (A0 : Option Addr) (c0 : Nat) (l0 : List Bool) (A1 : Option Addr) (c1 : Nat) (l1 : List Bool) (r : Bool) (w : World) (hr0 : Kd.C Kd.bool w A0 l0.length l0) (hc0 : l0.length ≤ c0) (hr1 : Kd.C Kd.bool w A1 l1.length l1) (hc1 : l1.length ≤ c1) (h : slices_Equal_bool_bool.f k l0 l1 = some r) :
  Calls Tryd.prog 55 #[.slice A0 l0.length c0, .slice A1 l1.length c1] w fun e w' => e = .returned (.bool r) ∧ Drawn0 w w' := by
 have HR0 := sd_ hr0; have HC0 := sd_ hc0; clear hr0 hc0; have HR1 := sd_ hr1; have HC1 := sd_ hc1; clear hr1 hc1; have H : (if (l0.length : Int) = (l1.length : Int) then (slices_Equal_bool_bool.l0 k l0 l1 (l0.length : Int) 0) else (some false)) = some r := h; clear h; by_cases c3 : (l0.length : Int) = (l1.length : Int)
 ·rw [if_pos c3] at H; have c3b0 : ((l0.length : Int) == (l1.length : Int)) = true := beq_iff_eq.mpr c3; have c3b1 : ((l0.length : Int) != (l1.length : Int)) = false := bne_eq_false_iff_eq.mpr c3
  have c3b2 : (l0.length == l1.length) = true := by first | simpa using c3 | (simp at c3 ⊢; omega)
  clear c3; have H' := sd_ H; clear H; go_enter Tryd.func55, Tryd.ntmps55; go_wp2
  repeat (go_quiet (fail); try go_wp2)
  go_loopg [13] k (fun kq v13 w' => ∃ (x13_1 : Int), v13 = .int .i64 x13_1 ∧ Aside0 (slices_Equal_bool_bool.l0 kq l0 l1 (l0.length : Int) x13_1 = some r) ∧ Aside0 (kq ≤ k) ∧ Drawn0 w w')
  case atStart => exact ⟨(0), sm_, H', ⟨Nat.le_refl _⟩, by repeat (first | exact Drawn0.refl _ | apply Drawn0.step)⟩
  case round =>
   clear H'; (try clear c1); (try clear p2); (try clear c3); (try clear c3b0); (try clear c3b1); (try clear c3b2); obtain ⟨x13_1, rfl, HA, HK1, ⟨m1, rfl⟩⟩ := hrel
   cases gk with
   | zero => exact absurd HA.out (by simp [slices_Equal_bool_bool.l0])
   | succ k1 =>
    have H := HA.out; clear HA; simp only [slices_Equal_bool_bool.l0] at H; revert H; refine ic_ (fun c4b0 H => ?_) (fun c4b0 H => ?_)
    ·revert H; refine ih_ fun c5b0 H => ?_
     revert H; refine ih_ fun c6b0 H => ?_
     revert H; refine ih_ fun c7b0 H => ?_
     by_cases c8 : ((rdOf false l0 x13_1) != (rdOf false l1 x13_1)) = true
     ·rw [if_pos c8] at H; have c8b0 : ((rdOf false l0 x13_1) != (rdOf false l1 x13_1)) = true := c8; (try (have c8b1 : decide ((rdOf false l0 x13_1) = (rdOf false l1 x13_1)) = false := by simpa using c8)); (try (have c8b2 : ((rdOf false l0 x13_1) == (rdOf false l1 x13_1)) = false := by simpa using c8)); (try (have c8b3 : ¬ ((rdOf false l0 x13_1) = (rdOf false l1 x13_1)) := by simpa using c8)); clear c8; obtain rfl := Option.some.inj H; have p541 : 0 ≤ (x13_1 : Int) := dt_; have q541 : x13_1 < (l0.length : Int) := dt_; obtain ⟨ad541, e541, hx541_0⟩ := Kd.at_bool HR0.out x13_1 p541 q541
      cases e541
      replace p541 := eq_true p541; replace q541 := eq_true q541; have p542 : 0 ≤ (x13_1 : Int) := dt_; have q542 : x13_1 < (l1.length : Int) := dt_; obtain ⟨ad542, e542, hx542_0⟩ := Kd.at_bool HR1.out x13_1 p542 q542
      cases e542
      replace p542 := eq_true p542; replace q542 := eq_true q542; go_wp2
      repeat (go_quiet (fail); try go_wp2)
      go_ret; exact ⟨by first | rfl | (simp; done) | (simp [*]; done), by repeat (first | exact Drawn0.refl _ | apply Drawn0.step)⟩
     rw [if_neg c8] at H
     have c8b0 : ((rdOf false l0 x13_1) != (rdOf false l1 x13_1)) = false := by simpa using c8
     (try (have c8b1 : decide ((rdOf false l0 x13_1) = (rdOf false l1 x13_1)) = true := by simpa using c8)); (try (have c8b2 : ((rdOf false l0 x13_1) == (rdOf false l1 x13_1)) = true := by simpa using c8)); clear c8; have H' := sd_ H; clear H; have p541 : 0 ≤ (x13_1 : Int) := dt_; have q541 : x13_1 < (l0.length : Int) := dt_; obtain ⟨ad541, e541, hx541_0⟩ := Kd.at_bool HR0.out x13_1 p541 q541
     cases e541
     replace p541 := eq_true p541; replace q541 := eq_true q541; have p542 : 0 ≤ (x13_1 : Int) := dt_; have q542 : x13_1 < (l1.length : Int) := dt_; obtain ⟨ad542, e542, hx542_0⟩ := Kd.at_bool HR1.out x13_1 p542 q542
     cases e542
     replace p542 := eq_true p542; replace q542 := eq_true q542; go_wp2
     repeat (go_quiet (fail); try go_wp2)
     go_roundg k1
     case measure => have := HK1.out; omega
     case rel => exact ⟨(wrap64 (x13_1 + 1)), sm_, H', ⟨by have := HK1.out; omega⟩, by repeat (first | exact Drawn0.refl _ | apply Drawn0.step)⟩
    obtain rfl := Option.some.inj H; go_wp2
    repeat (go_quiet (fail); try go_wp2)
    go_ret; exact ⟨by first | rfl | (simp; done) | (simp [*]; done), by repeat (first | exact Drawn0.refl _ | apply Drawn0.step)⟩
 rw [if_neg c3] at H; have c3b0 : ((l0.length : Int) == (l1.length : Int)) = false := beq_eq_false_iff_ne.mpr c3; have c3b1 : ((l0.length : Int) != (l1.length : Int)) = true := bne_iff_ne.mpr c3
 have c3b2 : (l0.length == l1.length) = false := by first | simpa using c3 | (simp at c3 ⊢; omega)
 obtain rfl := Option.some.inj H; go_enter Tryd.func55, Tryd.ntmps55; go_wp2
 repeat (go_quiet (fail); try go_wp2)
 go_ret; exact ⟨by first | rfl | (simp; done) | (simp [*]; done), by repeat (first | exact Drawn0.refl _ | apply Drawn0.step)⟩

end Go.Proofs.YtmcepfimcedocaaDoor.P
end

section
/-! shorter words -/
namespace Go.Proofs.YtmcepfimcedocaaDoor.P
open Go.RowKit Go.Proofs.YtmcepfimcedocaaDoorW.PrintWords Go.Proofs.YtmcepfimcedocaaDoorW.PrintLast Go.Proofs.YtmcepfimcedocaaDoorW.PrintMore
attribute [local go_sem] max2_int min2_int max_two min_two max_three min_three max_four min_four   -- for this text's walks alone
set_option linter.unusedVariables false
set_option linter.unusedSimpArgs false

attribute [local go_sem high] eqA64
/-! ### slices_Index_2_int_2_int: function 59 -/
def slices_Index_2_int_2_int.l0 : Nat → List (S64) → Int → Int → Int → Int → Option (Int)
 | 0, _, _, _, _, _ => none
 | k + 1, x0, x7, x8, x630000, x630001 => if x8 < x7 then (if 0 ≤ x8 then (if x8 < (x0.length : Int) then (if (x630000 == ((rd_T64 x0 x8).f0) && (x630001 == ((rd_T64 x0 x8).f1))) = true then (some x8) else (slices_Index_2_int_2_int.l0 k x0 x7 (wrap64 (x8 + 1)) x630000 x630001)) else (none)) else (none)) else (some (-1))
def slices_Index_2_int_2_int.f (k : Nat) (l0 : List (S64)) (a1_0 : Int) (a1_1 : Int) : Option (Int) := slices_Index_2_int_2_int.l0 k l0 (l0.length : Int) 0 a1_0 a1_1
set_option maxHeartbeats 8000000 in
set_option maxRecDepth 100000 in
theorem slices_Index_2_int_2_int.calls (k : Nat) (A0 : Option Addr) (c0 : Nat) (l0 : List (S64)) (a1_0 : Int) (a1_1 : Int) (r : Int) (w : World) (hr0 : Kd.C k64 w A0 l0.length l0) (hc0 : l0.length ≤ c0) (h : slices_Index_2_int_2_int.f k l0 a1_0 a1_1 = some r) :
  Calls Tryd.prog 59 #[.slice A0 l0.length c0, .agg #[.int .i64 a1_0, .int .i64 a1_1]] w fun e w' => e = .returned (.int .i64 r) ∧ Below w.heap.size w w' := by
 have hu64 := Tryd.underlying64; have HR0 := sd_ hr0; have HC0 := sd_ hc0; clear hr0 hc0; have HB := sd_ (Below.refl w.heap.size w); have H : (slices_Index_2_int_2_int.l0 k l0 (l0.length : Int) 0 a1_0 a1_1) = some r := h; clear h; have H' := sd_ H; clear H; go_enter Tryd.func59, Tryd.ntmps59; go_wp2_with (first | ((with_reducible refine gate_dst (N := 3) rfl ?_); refine bx_ (N := 3) (cs := #[.int .i64 a1_0, .int .i64 a1_1]) (t := 64) ?_; intro gb629 hg w3 hbox hb; have BK629 := sd_ (hbox); have GW629 := sd_ (gs_ hg (bw0_ HB.out)); have GE629 := sd_ (gs_ hg (bw0_ HB.out)); replace HB := sd_ (below_step (bw0_ HB.out) hb); clear hb hbox hg))
 repeat (go_quiet (first | ((with_reducible refine gate_dst (N := 3) rfl ?_); refine bx_ (N := 3) (cs := #[.int .i64 a1_0, .int .i64 a1_1]) (t := 64) ?_; intro gb629 hg w3 hbox hb; have BK629 := sd_ (hbox); have GW629 := sd_ (gs_ hg (bw0_ HB.out)); have GE629 := sd_ (gs_ hg (bw0_ HB.out)); replace HB := sd_ (below_step (bw0_ HB.out) hb); clear hb hbox hg)); try go_wp2_with (first | ((with_reducible refine gate_dst (N := 3) rfl ?_); refine bx_ (N := 3) (cs := #[.int .i64 a1_0, .int .i64 a1_1]) (t := 64) ?_; intro gb629 hg w3 hbox hb; have BK629 := sd_ (hbox); have GW629 := sd_ (gs_ hg (bw0_ HB.out)); have GE629 := sd_ (gs_ hg (bw0_ HB.out)); replace HB := sd_ (below_step (bw0_ HB.out) hb); clear hb hbox hg)))
 go_loopg [8] k (fun kq v8 w' => ∃ (x8_1 : Int), v8 = .int .i64 x8_1 ∧ Aside0 (slices_Index_2_int_2_int.l0 kq l0 (l0.length : Int) x8_1 a1_0 a1_1 = some r) ∧ Aside0 (kq ≤ k) ∧ Aside0 (w'.heap[gb629]? = some (.cells #[.int .i64 a1_0, .int .i64 a1_1] 64 (0, 0))) ∧ Aside0 (Below w.heap.size w w'))
 case atStart => exact ⟨(0), sm_, H', ⟨Nat.le_refl _⟩, ⟨bz_ BK629.out⟩, ⟨bw1_ HB.out GE629.out⟩⟩
 case round =>
  clear H'; (try clear p2); obtain ⟨x8_1, rfl, HA, HK1, BK629, HB⟩ := hrel
  cases gk with
  | zero => exact absurd HA.out (by simp [slices_Index_2_int_2_int.l0])
  | succ k1 =>
   have H := HA.out; clear HA; simp only [slices_Index_2_int_2_int.l0] at H; revert H; refine ic_ (fun c4b0 H => ?_) (fun c4b0 H => ?_)
   ·revert H; refine ih_ fun c5b0 H => ?_
    revert H; refine ih_ fun c6b0 H => ?_
    by_cases c7 : (a1_0 == ((rd_T64 l0 x8_1).f0) && (a1_1 == ((rd_T64 l0 x8_1).f1))) = true
    ·rw [if_pos c7] at H; have c7b0 : (a1_0 == ((rd_T64 l0 x8_1).f0) && (a1_1 == ((rd_T64 l0 x8_1).f1))) = true := c7; (try (have c7b1 : decide (a1_0 = ((rd_T64 l0 x8_1).f0) && (a1_1 == ((rd_T64 l0 x8_1).f1))) = true := by simpa using c7)); (try (have c7b2 : (a1_0 == ((rd_T64 l0 x8_1).f0) && (a1_1 == ((rd_T64 l0 x8_1).f1))) = true := by simpa using c7)); clear c7; obtain rfl := Option.some.inj H; obtain ⟨z8_0, z8_1, f8_0, f8_1⟩ := bf2_ BK629.out; have p630 : 0 ≤ (x8_1 : Int) := dt_; have q630 : x8_1 < (l0.length : Int) := dt_; obtain ⟨ad630, e630, hx630_0, hx630_1⟩ := at_T64 HR0.out x8_1 p630 q630
     cases e630
     replace hx630_0 := (HB.out.cell (World.block_lt_of_cell? w _ hx630_0)).trans hx630_0; replace hx630_1 := (HB.out.cell (World.block_lt_of_cell? w _ hx630_1)).trans hx630_1; replace p630 := eq_true p630; replace q630 := eq_true q630; go_wp2
     repeat (go_quiet (fail); try go_wp2)
     go_ret; exact ⟨an_, bw1_ HB.out GE629.out⟩
    rw [if_neg c7] at H
    have c7b0 : (a1_0 == ((rd_T64 l0 x8_1).f0) && (a1_1 == ((rd_T64 l0 x8_1).f1))) = false := by simpa using c7
    (try (have c7b1 : decide (a1_0 = ((rd_T64 l0 x8_1).f0) && (a1_1 == ((rd_T64 l0 x8_1).f1))) = false := by simpa using c7)); (try (have c7b2 : (a1_0 == ((rd_T64 l0 x8_1).f0) && (a1_1 == ((rd_T64 l0 x8_1).f1))) = false := by simpa using c7)); (try (have c7b3 : ¬ (a1_0 = ((rd_T64 l0 x8_1).f0) && (a1_1 == ((rd_T64 l0 x8_1).f1))) := by simpa using c7)); clear c7; have H' := sd_ H; clear H; obtain ⟨z9_0, z9_1, f9_0, f9_1⟩ := bf2_ BK629.out; have p630 : 0 ≤ (x8_1 : Int) := dt_; have q630 : x8_1 < (l0.length : Int) := dt_; obtain ⟨ad630, e630, hx630_0, hx630_1⟩ := at_T64 HR0.out x8_1 p630 q630
    cases e630
    replace hx630_0 := (HB.out.cell (World.block_lt_of_cell? w _ hx630_0)).trans hx630_0; replace hx630_1 := (HB.out.cell (World.block_lt_of_cell? w _ hx630_1)).trans hx630_1; replace p630 := eq_true p630; replace q630 := eq_true q630; go_wp2
    repeat (go_quiet (fail); try go_wp2)
    go_roundg k1
    case measure => have := HK1.out; omega
    case rel => exact ⟨(wrap64 (x8_1 + 1)), sm_, H', ⟨by have := HK1.out; omega⟩, ⟨bz_ BK629.out⟩, ⟨bw1_ HB.out GE629.out⟩⟩
   obtain rfl := Option.some.inj H; go_wp2
   repeat (go_quiet (fail); try go_wp2)
   go_ret; exact ⟨an_, bw1_ HB.out GE629.out⟩

end Go.Proofs.YtmcepfimcedocaaDoor.P
end

section
/-! shorter words -/
namespace Go.Proofs.YtmcepfimcedocaaDoor.P
open Go.RowKit Go.Proofs.YtmcepfimcedocaaDoorW.PrintWords Go.Proofs.YtmcepfimcedocaaDoorW.PrintLast Go.Proofs.YtmcepfimcedocaaDoorW.PrintMore
attribute [local go_sem] max2_int min2_int max_two min_two max_three min_three max_four min_four   -- for this text's walks alone
set_option linter.unusedVariables false
set_option linter.unusedSimpArgs false

/-! ### impl_BoundSystem_1: function 77 -/
def impl_BoundSystem_1.f (a0 : Int) (a1 : Int) : Option (Bool) := some (decide (a0 ≤ a1))
set_option maxHeartbeats 8000000 in
set_option maxRecDepth 100000 in
theorem impl_BoundSystem_1.calls (a0 : Int) (a1 : Int) (r : Bool) (w : World) (h : impl_BoundSystem_1.f a0 a1 = some r) :
  Calls Tryd.prog 77 #[.int .i64 a0, .int .i64 a1] w fun e w' => e = .returned (.bool r) ∧ Drawn0 w w' := by
 have H : (some (decide (a0 ≤ a1))) = some r := h; clear h; obtain rfl := Option.some.inj H; go_enter Tryd.func77, Tryd.ntmps77; go_wp2; go_ret; exact ⟨by first | rfl | (simp; done) | (simp [*]; done), by repeat (first | exact Drawn0.refl _ | apply Drawn0.step)⟩

end Go.Proofs.YtmcepfimcedocaaDoor.P
end
