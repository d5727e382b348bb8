-- Several texts in one (wip/tools/merge.py).
import Derived.Test.YtipfkicndjddgaaM1
import Derived.Test.YtipfkicndjddgaaM2
section
namespace Go.Proofs.Ytipfkicndjddgaa.P
open Go.RowKit Go.Proofs.YtipfkicndjddgaaW.PrintWords Go.Proofs.YtipfkicndjddgaaW.PrintLast Go.Proofs.YtipfkicndjddgaaW.PrintMore
attribute [local go_sem] max2_int min2_int max_two min_two max_three min_three max_four min_four   -- for this text's walks alone
set_option linter.unusedVariables false
set_option linter.unusedSimpArgs false

/-! ### laws_szSystem: function 8 -/
def laws_szSystem.f (a0_0 : Int) (l0_1 : List Int) (l0_2 : List Int) (l0_3 : List Bool) (a1 : Int) : Option (Int) := (laws_szIntS.f l0_1 a1).bind fun t102 => (if t102 < 0 then (some (-1)) else ((laws_szIntS.f l0_2 t102).bind fun t103 => (if t103 < 0 then (some (-1)) else ((laws_szBoolS.f l0_3 t103).bind fun t104 => (if t104 < 0 then (some (-1)) else (some t104))))))
set_option maxHeartbeats 8000000 in
set_option maxRecDepth 100000 in
theorem laws_szSystem.calls (a0_0 : Int) (A0_1 : Option Addr) (c0_1 : Nat) (l0_1 : List Int) (A0_2 : Option Addr) (c0_2 : Nat) (l0_2 : List Int) (A0_3 : Option Addr) (c0_3 : Nat) (l0_3 : List Bool) (a1 : Int) (r : Int) (w : World) (hr0_1 : Kd.C (Kd.int .i64) w A0_1 l0_1.length l0_1) (hc0_1 : l0_1.length ≤ c0_1) (hr0_2 : Kd.C (Kd.int .i64) w A0_2 l0_2.length l0_2) (hc0_2 : l0_2.length ≤ c0_2) (hr0_3 : Kd.C Kd.bool w A0_3 l0_3.length l0_3) (hc0_3 : l0_3.length ≤ c0_3) (h : laws_szSystem.f a0_0 l0_1 l0_2 l0_3 a1 = some r) :
  Calls Try.prog 8 #[.agg #[.int .i64 a0_0, .slice A0_1 l0_1.length c0_1, .slice A0_2 l0_2.length c0_2, .slice A0_3 l0_3.length c0_3], .int .i64 a1] w fun e w' => e = .returned (.int .i64 r) ∧ Below w.heap.size w w' := by
 have hu25 := Try.underlying25
 have HR0_1 := sd_ hr0_1
 have HC0_1 := sd_ hc0_1
 clear hr0_1 hc0_1
 have HR0_2 := sd_ hr0_2
 have HC0_2 := sd_ hc0_2
 clear hr0_2 hc0_2
 have HR0_3 := sd_ hr0_3
 have HC0_3 := sd_ hc0_3
 clear hr0_3 hc0_3
 have HB := sd_ (Below.refl w.heap.size w)
 have H : ((laws_szIntS.f l0_1 a1).bind fun t102 => (if t102 < 0 then (some (-1)) else ((laws_szIntS.f l0_2 t102).bind fun t103 => (if t103 < 0 then (some (-1)) else ((laws_szBoolS.f l0_3 t103).bind fun t104 => (if t104 < 0 then (some (-1)) else (some t104))))))) = some r := h
 clear h
 replace H := Option.bind_eq_some_iff.mp H
 obtain ⟨t102, A30, H⟩ := H
 try dsimp only at H
 have A3 := sd_ A30
 clear A30
 have HP4 := sd_ H
 clear H
 go_enter Try.func8, Try.ntmps8
 go_upto_if 10 with (first | ((with_reducible refine gate_dst (N := 2) rfl ?_); refine bx_ (N := 2) (cs := #[.int .i64 a0_0, .slice A0_1 l0_1.length c0_1, .slice A0_2 l0_2.length c0_2, .slice A0_3 l0_3.length c0_3]) (t := 25) ?_; intro gb101 hg w5 hbox hb; have BK101 := sd_ (hbox); have GW101 := sd_ (gs_ hg (bw0_ HB.out)); have GE101 := sd_ (gs_ hg (bw0_ HB.out)); replace HB := sd_ (below_step (bw0_ HB.out) hb); clear hb hbox hg; obtain ⟨hcz6_0, hcz6_1, hcz6_2, hcz6_3, hfz6_0, hfz6_1, hfz6_2, hfz6_3⟩ := bf4_ BK101.out) | ((with_reducible refine gate_callee (f := 34) rfl ?_); refine goesL_ (some 8) rfl rfl Try.func34 (by kernel_rfl) rfl #[.slice A0_1 l0_1.length c0_1, .int .i64 a1] rfl la_ ?_; (with_reducible refine (laws_szIntS.calls _ _ l0_1 a1 t102 _ (kc_ HR0_1.out HB.out) HC0_1.out A3.out).mono ?_); rintro e w' ⟨rfl, ⟨nd, rfl⟩⟩; refine ⟨_, rfl, ?_⟩))
 have H := HP4.out
 clear HP4
 by_cases c7 : t102 < 0
 ·rw [if_pos c7] at H
  have c7b0 : decide (t102 < 0) = true := decide_eq_true c7
  clear c7
  (first | rw [c7b0] | (simp only [i64_w, i32_w]; rw [c7b0]) | skip)
  obtain rfl := Option.some.inj H
  go_wp2
  go_ret
  exact ⟨an_, bw1_ HB.out GE101.out⟩
 rw [if_neg c7] at H
 have c7b0 : decide (t102 < 0) = false := decide_eq_false c7
 clear c7
 (first | rw [c7b0] | (simp only [i64_w, i32_w]; rw [c7b0]) | skip)
 replace H := Option.bind_eq_some_iff.mp H
 obtain ⟨t103, A80, H⟩ := H
 try dsimp only at H
 have A8 := sd_ A80
 clear A80
 by_cases c9 : t103 < 0
 ·rw [if_pos c9] at H
  have c9b0 : decide (t103 < 0) = true := decide_eq_true c9
  clear c9
  obtain rfl := Option.some.inj H
  obtain ⟨hcz10_0, hcz10_1, hcz10_2, hcz10_3, hfz10_0, hfz10_1, hfz10_2, hfz10_3⟩ := bf4_ BK101.out
  go_wp2_with (first | ((with_reducible refine gate_callee (f := 34) rfl ?_); refine goesL_ (some 14) rfl rfl Try.func34 (by kernel_rfl) rfl #[.slice A0_2 l0_2.length c0_2, .int .i64 t102] rfl la_ ?_; (with_reducible refine (laws_szIntS.calls _ _ l0_2 t102 t103 _ (kc_ HR0_2.out HB.out) HC0_2.out A8.out).mono ?_); rintro e w' ⟨rfl, ⟨nd, rfl⟩⟩; refine ⟨_, rfl, ?_⟩))
  go_ret
  exact ⟨an_, bw1_ HB.out GE101.out⟩
 rw [if_neg c9] at H
 have c9b0 : decide (t103 < 0) = false := decide_eq_false c9
 clear c9
 replace H := Option.bind_eq_some_iff.mp H
 obtain ⟨t104, A110, H⟩ := H
 try dsimp only at H
 have A11 := sd_ A110
 clear A110
 by_cases c12 : t104 < 0
 ·rw [if_pos c12] at H
  have c12b0 : decide (t104 < 0) = true := decide_eq_true c12
  clear c12
  obtain rfl := Option.some.inj H
  obtain ⟨hcz13_0, hcz13_1, hcz13_2, hcz13_3, hfz13_0, hfz13_1, hfz13_2, hfz13_3⟩ := bf4_ BK101.out
  go_wp2_with (first | ((with_reducible refine gate_callee (f := 34) rfl ?_); refine goesL_ (some 14) rfl rfl Try.func34 (by kernel_rfl) rfl #[.slice A0_2 l0_2.length c0_2, .int .i64 t102] rfl la_ ?_; (with_reducible refine (laws_szIntS.calls _ _ l0_2 t102 t103 _ (kc_ HR0_2.out HB.out) HC0_2.out A8.out).mono ?_); rintro e w' ⟨rfl, ⟨nd, rfl⟩⟩; refine ⟨_, rfl, ?_⟩) | ((with_reducible refine gate_callee (f := 35) rfl ?_); refine goesL_ (some 20) rfl rfl Try.func35 (by kernel_rfl) rfl #[.slice A0_3 l0_3.length c0_3, .int .i64 t103] rfl la_ ?_; (with_reducible refine (laws_szBoolS.calls _ _ l0_3 t103 t104 _ ?side1 ?side2 A11.out).mono ?_); (case side1 => repeat (first | exact (Kd.C_below HR0_3.out (bw1_ HB.out GE101.out)) | (with_reducible refine Kd.C_alloc ?_ _) | (with_reducible refine Kd.C_drewN ?_ _) | (with_reducible refine Kd.C_drew ?_))); (case side2 => exact HC0_3.out); rintro e w' ⟨rfl, ⟨nd, rfl⟩⟩; refine ⟨_, rfl, ?_⟩))
  go_ret
  exact ⟨an_, bw1_ HB.out GE101.out⟩
 rw [if_neg c12] at H
 have c12b0 : decide (t104 < 0) = false := decide_eq_false c12
 clear c12
 obtain rfl := Option.some.inj H
 obtain ⟨hcz14_0, hcz14_1, hcz14_2, hcz14_3, hfz14_0, hfz14_1, hfz14_2, hfz14_3⟩ := bf4_ BK101.out
 go_wp2_with (first | ((with_reducible refine gate_callee (f := 34) rfl ?_); refine goesL_ (some 14) rfl rfl Try.func34 (by kernel_rfl) rfl #[.slice A0_2 l0_2.length c0_2, .int .i64 t102] rfl la_ ?_; (with_reducible refine (laws_szIntS.calls _ _ l0_2 t102 t103 _ (kc_ HR0_2.out HB.out) HC0_2.out A8.out).mono ?_); rintro e w' ⟨rfl, ⟨nd, rfl⟩⟩; refine ⟨_, rfl, ?_⟩) | ((with_reducible refine gate_callee (f := 35) rfl ?_); refine goesL_ (some 20) rfl rfl Try.func35 (by kernel_rfl) rfl #[.slice A0_3 l0_3.length c0_3, .int .i64 t103] rfl la_ ?_; (with_reducible refine (laws_szBoolS.calls _ _ l0_3 t103 t104 _ ?side1 ?side2 A11.out).mono ?_); (case side1 => repeat (first | exact (Kd.C_below HR0_3.out (bw1_ HB.out GE101.out)) | (with_reducible refine Kd.C_alloc ?_ _) | (with_reducible refine Kd.C_drewN ?_ _) | (with_reducible refine Kd.C_drew ?_))); (case side2 => exact HC0_3.out); rintro e w' ⟨rfl, ⟨nd, rfl⟩⟩; refine ⟨_, rfl, ?_⟩))
 go_ret
 exact ⟨an_, bw1_ HB.out GE101.out⟩


/-! ### spec_l1Second: function 38 -/
def spec_l1Second.f (a0 : Int) (a1 : Int) : Option (Int) := if a1 < 2 then (some a1) else (if a1 ≤ (wrap64 (a0 + 1)) then (if a0 = 0 then (none) else (some (Int.tmod (wrap64 (a1 - 1)) a0))) else (if a0 = 0 then (none) else (some (Int.tmod a1 a0))))
set_option maxHeartbeats 8000000 in
set_option maxRecDepth 100000 in
theorem spec_l1Second.calls (a0 : Int) (a1 : Int) (r : Int) (w : World) (h : spec_l1Second.f a0 a1 = some r) :
  Calls Try.prog 38 #[.int .i64 a0, .int .i64 a1] w fun e w' => e = .returned (.int .i64 r) ∧ Drawn0 w w' := by
 have H : (if a1 < 2 then (some a1) else (if a1 ≤ (wrap64 (a0 + 1)) then (if a0 = 0 then (none) else (some (Int.tmod (wrap64 (a1 - 1)) a0))) else (if a0 = 0 then (none) else (some (Int.tmod a1 a0))))) = some r := h
 clear h
 by_cases c3 : a1 < 2
 ·rw [if_pos c3] at H
  have c3b0 : decide (a1 < 2) = true := decide_eq_true c3
  clear c3
  obtain rfl := Option.some.inj H
  go_enter Try.func38, Try.ntmps38
  go_wp2
  go_ret
  exact ⟨by first | rfl | (simp; done) | (simp [*]; done), by repeat (first | exact Drawn0.refl _ | apply Drawn0.step)⟩
 rw [if_neg c3] at H
 have c3b0 : decide (a1 < 2) = false := decide_eq_false c3
 clear c3
 by_cases c4 : a1 ≤ (wrap64 (a0 + 1))
 ·rw [if_pos c4] at H
  have c4b0 : decide (a1 ≤ (wrap64 (a0 + 1))) = true := decide_eq_true c4
  clear c4
  by_cases c5 : a0 = 0
  ·rw [if_pos c5] at H
   exact absurd H (by simp)
  rw [if_neg c5] at H
  have c5b0 : (a0 == 0) = false := beq_eq_false_iff_ne.mpr c5
  have c5b1 : (a0 != 0) = true := bne_iff_ne.mpr c5
  obtain rfl := Option.some.inj H
  go_enter Try.func38, Try.ntmps38
  go_wp2
  go_ret
  exact ⟨by first | rfl | (simp; done) | (simp [*]; done), by repeat (first | exact Drawn0.refl _ | apply Drawn0.step)⟩
 rw [if_neg c4] at H
 have c4b0 : decide (a1 ≤ (wrap64 (a0 + 1))) = false := decide_eq_false c4
 clear c4
 by_cases c6 : a0 = 0
 ·rw [if_pos c6] at H
  exact absurd H (by simp)
 rw [if_neg c6] at H
 have c6b0 : (a0 == 0) = false := beq_eq_false_iff_ne.mpr c6
 have c6b1 : (a0 != 0) = true := bne_iff_ne.mpr c6
 obtain rfl := Option.some.inj H
 go_enter Try.func38, Try.ntmps38
 go_wp2
 go_ret
 exact ⟨by first | rfl | (simp; done) | (simp [*]; done), by repeat (first | exact Drawn0.refl _ | apply Drawn0.step)⟩


/-! ### spec_l1Pair: function 39 -/
def spec_l1Pair.f (a0 : Int) (a1 : Int) (a2 : Int) : Option (Int) := if (wrap64 ((wrap64 (a1 * a0)) + a2)) = 0 then (some 0) else (if (wrap64 ((wrap64 (a1 * a0)) + a2)) = (wrap64 (a0 + 1)) then (some 1) else (if (wrap64 ((wrap64 (a1 * a0)) + a2)) < (wrap64 (a0 + 1)) then (some (wrap64 ((wrap64 ((wrap64 (a1 * a0)) + a2)) + 1))) else (some (wrap64 ((wrap64 (a1 * a0)) + a2)))))
set_option maxHeartbeats 8000000 in
set_option maxRecDepth 100000 in
theorem spec_l1Pair.calls (a0 : Int) (a1 : Int) (a2 : Int) (r : Int) (w : World) (h : spec_l1Pair.f a0 a1 a2 = some r) :
  Calls Try.prog 39 #[.int .i64 a0, .int .i64 a1, .int .i64 a2] w fun e w' => e = .returned (.int .i64 r) ∧ Drawn0 w w' := by
 have H : (if (wrap64 ((wrap64 (a1 * a0)) + a2)) = 0 then (some 0) else (if (wrap64 ((wrap64 (a1 * a0)) + a2)) = (wrap64 (a0 + 1)) then (some 1) else (if (wrap64 ((wrap64 (a1 * a0)) + a2)) < (wrap64 (a0 + 1)) then (some (wrap64 ((wrap64 ((wrap64 (a1 * a0)) + a2)) + 1))) else (some (wrap64 ((wrap64 (a1 * a0)) + a2)))))) = some r := h
 clear h
 by_cases c4 : (wrap64 ((wrap64 (a1 * a0)) + a2)) = 0
 ·rw [if_pos c4] at H
  have c4b0 : ((wrap64 ((wrap64 (a1 * a0)) + a2)) == 0) = true := beq_iff_eq.mpr c4
  have c4b1 : ((wrap64 ((wrap64 (a1 * a0)) + a2)) != 0) = false := bne_eq_false_iff_eq.mpr c4
  clear c4
  obtain rfl := Option.some.inj H
  go_enter Try.func39, Try.ntmps39
  go_wp2
  go_ret
  exact ⟨by first | rfl | (simp; done) | (simp [*]; done), by repeat (first | exact Drawn0.refl _ | apply Drawn0.step)⟩
 rw [if_neg c4] at H
 have c4b0 : ((wrap64 ((wrap64 (a1 * a0)) + a2)) == 0) = false := beq_eq_false_iff_ne.mpr c4
 have c4b1 : ((wrap64 ((wrap64 (a1 * a0)) + a2)) != 0) = true := bne_iff_ne.mpr c4
 by_cases c5 : (wrap64 ((wrap64 (a1 * a0)) + a2)) = (wrap64 (a0 + 1))
 ·rw [if_pos c5] at H
  have c5b0 : ((wrap64 ((wrap64 (a1 * a0)) + a2)) == (wrap64 (a0 + 1))) = true := beq_iff_eq.mpr c5
  have c5b1 : ((wrap64 ((wrap64 (a1 * a0)) + a2)) != (wrap64 (a0 + 1))) = false := bne_eq_false_iff_eq.mpr c5
  clear c5
  obtain rfl := Option.some.inj H
  go_enter Try.func39, Try.ntmps39
  go_wp2
  go_ret
  exact ⟨by first | rfl | (simp; done) | (simp [*]; done), by repeat (first | exact Drawn0.refl _ | apply Drawn0.step)⟩
 rw [if_neg c5] at H
 have c5b0 : ((wrap64 ((wrap64 (a1 * a0)) + a2)) == (wrap64 (a0 + 1))) = false := beq_eq_false_iff_ne.mpr c5
 have c5b1 : ((wrap64 ((wrap64 (a1 * a0)) + a2)) != (wrap64 (a0 + 1))) = true := bne_iff_ne.mpr c5
 by_cases c6 : (wrap64 ((wrap64 (a1 * a0)) + a2)) < (wrap64 (a0 + 1))
 ·rw [if_pos c6] at H
  have c6b0 : decide ((wrap64 ((wrap64 (a1 * a0)) + a2)) < (wrap64 (a0 + 1))) = true := decide_eq_true c6
  clear c6
  obtain rfl := Option.some.inj H
  go_enter Try.func39, Try.ntmps39
  go_wp2
  go_ret
  exact ⟨by first | rfl | (simp; done) | (simp [*]; done), by repeat (first | exact Drawn0.refl _ | apply Drawn0.step)⟩
 rw [if_neg c6] at H
 have c6b0 : decide ((wrap64 ((wrap64 (a1 * a0)) + a2)) < (wrap64 (a0 + 1))) = false := decide_eq_false c6
 clear c6
 obtain rfl := Option.some.inj H
 go_enter Try.func39, Try.ntmps39
 go_wp2
 go_ret
 exact ⟨by first | rfl | (simp; done) | (simp [*]; done), by repeat (first | exact Drawn0.refl _ | apply Drawn0.step)⟩


/-! ### spec_l1Add: function 40 -/
def spec_l1Add.f (a0_0 : Int) (l0_1 : List Int) (l0_2 : List Int) (l0_3 : List Bool) (a1 : Int) (a2 : Int) : Option (Int) := if 0 ≤ (wrap64 ((wrap64 (a1 * a0_0)) + a2)) then (if (wrap64 ((wrap64 (a1 * a0_0)) + a2)) < (l0_1.length : Int) then (some (rd l0_1 (wrap64 ((wrap64 (a1 * a0_0)) + a2)))) else (none)) else (none)
set_option maxHeartbeats 8000000 in
set_option maxRecDepth 100000 in
theorem spec_l1Add.calls (a0_0 : Int) (A0_1 : Option Addr) (c0_1 : Nat) (l0_1 : List Int) (A0_2 : Option Addr) (c0_2 : Nat) (l0_2 : List Int) (A0_3 : Option Addr) (c0_3 : Nat) (l0_3 : List Bool) (a1 : Int) (a2 : Int) (r : Int) (w : World) (hr0_1 : Kd.C (Kd.int .i64) w A0_1 l0_1.length l0_1) (hc0_1 : l0_1.length ≤ c0_1) (hr0_2 : Kd.C (Kd.int .i64) w A0_2 l0_2.length l0_2) (hc0_2 : l0_2.length ≤ c0_2) (hr0_3 : Kd.C Kd.bool w A0_3 l0_3.length l0_3) (hc0_3 : l0_3.length ≤ c0_3) (h : spec_l1Add.f a0_0 l0_1 l0_2 l0_3 a1 a2 = some r) :
  Calls Try.prog 40 #[.agg #[.int .i64 a0_0, .slice A0_1 l0_1.length c0_1, .slice A0_2 l0_2.length c0_2, .slice A0_3 l0_3.length c0_3], .int .i64 a1, .int .i64 a2] w fun e w' => e = .returned (.int .i64 r) ∧ Below w.heap.size w w' := by
 have hu27 := Try.underlying27
 have HR0_1 := sd_ hr0_1
 have HC0_1 := sd_ hc0_1
 clear hr0_1 hc0_1
 have HR0_2 := sd_ hr0_2
 have HC0_2 := sd_ hc0_2
 clear hr0_2 hc0_2
 have HR0_3 := sd_ hr0_3
 have HC0_3 := sd_ hc0_3
 clear hr0_3 hc0_3
 have HB := sd_ (Below.refl w.heap.size w)
 have H : (if 0 ≤ (wrap64 ((wrap64 (a1 * a0_0)) + a2)) then (if (wrap64 ((wrap64 (a1 * a0_0)) + a2)) < (l0_1.length : Int) then (some (rd l0_1 (wrap64 ((wrap64 (a1 * a0_0)) + a2)))) else (none)) else (none)) = some r := h
 clear h
 obtain ⟨ji4, hji4⟩ : ∃ j_ : Int, (wrap64 ((wrap64 (a1 * a0_0)) + a2)) = j_ := ⟨_, rfl⟩
 replace H : (if 0 ≤ (ji4) then (if (ji4) < (l0_1.length : Int) then (some (rd l0_1 (ji4))) else (none)) else (none)) = some r := by first | (rw [hji4] at H; exact H) | (simp only [hji4] at H ⊢; exact H)
 have hji4w : (IntKind.i64.wrap ((wrap64 (a1 * a0_0)) + a2)) = ji4 := (i64_w _).trans hji4
 by_cases c5 : 0 ≤ (ji4)
 ·rw [if_pos c5] at H
  have c5b0 : decide (0 ≤ (ji4)) = true := decide_eq_true c5
  clear c5
  by_cases c6 : (ji4) < (l0_1.length : Int)
  ·rw [if_pos c6] at H
   have c6b0 : decide ((ji4) < (l0_1.length : Int)) = true := decide_eq_true c6
   clear c6
   obtain rfl := Option.some.inj H
   go_enter Try.func40, Try.ntmps40
   go_wp2_with (first | ((with_reducible refine gate_dst (N := 3) rfl ?_); refine bx_ (N := 3) (cs := #[.int .i64 a0_0, .slice A0_1 l0_1.length c0_1, .slice A0_2 l0_2.length c0_2, .slice A0_3 l0_3.length c0_3]) (t := 27) ?_; intro gb111 hg w7 hbox hb; have BK111 := sd_ (hbox); have GW111 := sd_ (gs_ hg (bw0_ HB.out)); have GE111 := sd_ (gs_ hg (bw0_ HB.out)); replace HB := sd_ (below_step (bw0_ HB.out) hb); clear hb hbox hg; obtain ⟨hcz8_0, hcz8_1, hcz8_2, hcz8_3, hfz8_0, hfz8_1, hfz8_2, hfz8_3⟩ := bf4_ BK111.out; have p112 : 0 ≤ ((ji4) : Int) := dt_; have q112 : (ji4) < (l0_1.length : Int) := dt_; obtain ⟨ad112, e112, hx112_0⟩ := Kd.at_int HR0_1.out (ji4) p112 q112; cases e112; replace hx112_0 := (HB.out.cell (World.block_lt_of_cell? w _ hx112_0)).trans hx112_0; replace p112 := eq_true p112; replace q112 := eq_true q112))
   go_ret
   exact ⟨by first | rfl | (simp [errW_none, errW_some] <;> rfl) | (simp only [← hji4]; first | rfl | (simp [errW_none, errW_some] <;> rfl)) | (simp [*, errW_none, errW_some] <;> rfl), bw1_ HB.out GE111.out⟩
  rw [if_neg c6] at H
  exact absurd H (by simp)
 rw [if_neg c5] at H
 exact absurd H (by simp)


/-! ### spec_l1Mul: function 41 -/
def spec_l1Mul.f (a0_0 : Int) (l0_1 : List Int) (l0_2 : List Int) (l0_3 : List Bool) (a1 : Int) (a2 : Int) : Option (Int) := if 0 ≤ (wrap64 ((wrap64 (a1 * a0_0)) + a2)) then (if (wrap64 ((wrap64 (a1 * a0_0)) + a2)) < (l0_2.length : Int) then (some (rd l0_2 (wrap64 ((wrap64 (a1 * a0_0)) + a2)))) else (none)) else (none)
set_option maxHeartbeats 8000000 in
set_option maxRecDepth 100000 in
theorem spec_l1Mul.calls (a0_0 : Int) (A0_1 : Option Addr) (c0_1 : Nat) (l0_1 : List Int) (A0_2 : Option Addr) (c0_2 : Nat) (l0_2 : List Int) (A0_3 : Option Addr) (c0_3 : Nat) (l0_3 : List Bool) (a1 : Int) (a2 : Int) (r : Int) (w : World) (hr0_1 : Kd.C (Kd.int .i64) w A0_1 l0_1.length l0_1) (hc0_1 : l0_1.length ≤ c0_1) (hr0_2 : Kd.C (Kd.int .i64) w A0_2 l0_2.length l0_2) (hc0_2 : l0_2.length ≤ c0_2) (hr0_3 : Kd.C Kd.bool w A0_3 l0_3.length l0_3) (hc0_3 : l0_3.length ≤ c0_3) (h : spec_l1Mul.f a0_0 l0_1 l0_2 l0_3 a1 a2 = some r) :
  Calls Try.prog 41 #[.agg #[.int .i64 a0_0, .slice A0_1 l0_1.length c0_1, .slice A0_2 l0_2.length c0_2, .slice A0_3 l0_3.length c0_3], .int .i64 a1, .int .i64 a2] w fun e w' => e = .returned (.int .i64 r) ∧ Below w.heap.size w w' := by
 have hu27 := Try.underlying27
 have HR0_1 := sd_ hr0_1
 have HC0_1 := sd_ hc0_1
 clear hr0_1 hc0_1
 have HR0_2 := sd_ hr0_2
 have HC0_2 := sd_ hc0_2
 clear hr0_2 hc0_2
 have HR0_3 := sd_ hr0_3
 have HC0_3 := sd_ hc0_3
 clear hr0_3 hc0_3
 have HB := sd_ (Below.refl w.heap.size w)
 have H : (if 0 ≤ (wrap64 ((wrap64 (a1 * a0_0)) + a2)) then (if (wrap64 ((wrap64 (a1 * a0_0)) + a2)) < (l0_2.length : Int) then (some (rd l0_2 (wrap64 ((wrap64 (a1 * a0_0)) + a2)))) else (none)) else (none)) = some r := h
 clear h
 obtain ⟨ji4, hji4⟩ : ∃ j_ : Int, (wrap64 ((wrap64 (a1 * a0_0)) + a2)) = j_ := ⟨_, rfl⟩
 replace H : (if 0 ≤ (ji4) then (if (ji4) < (l0_2.length : Int) then (some (rd l0_2 (ji4))) else (none)) else (none)) = some r := by first | (rw [hji4] at H; exact H) | (simp only [hji4] at H ⊢; exact H)
 have hji4w : (IntKind.i64.wrap ((wrap64 (a1 * a0_0)) + a2)) = ji4 := (i64_w _).trans hji4
 by_cases c5 : 0 ≤ (ji4)
 ·rw [if_pos c5] at H
  have c5b0 : decide (0 ≤ (ji4)) = true := decide_eq_true c5
  clear c5
  by_cases c6 : (ji4) < (l0_2.length : Int)
  ·rw [if_pos c6] at H
   have c6b0 : decide ((ji4) < (l0_2.length : Int)) = true := decide_eq_true c6
   clear c6
   obtain rfl := Option.some.inj H
   go_enter Try.func41, Try.ntmps41
   go_wp2_with (first | ((with_reducible refine gate_dst (N := 3) rfl ?_); refine bx_ (N := 3) (cs := #[.int .i64 a0_0, .slice A0_1 l0_1.length c0_1, .slice A0_2 l0_2.length c0_2, .slice A0_3 l0_3.length c0_3]) (t := 27) ?_; intro gb113 hg w7 hbox hb; have BK113 := sd_ (hbox); have GW113 := sd_ (gs_ hg (bw0_ HB.out)); have GE113 := sd_ (gs_ hg (bw0_ HB.out)); replace HB := sd_ (below_step (bw0_ HB.out) hb); clear hb hbox hg; obtain ⟨hcz8_0, hcz8_1, hcz8_2, hcz8_3, hfz8_0, hfz8_1, hfz8_2, hfz8_3⟩ := bf4_ BK113.out; have p114 : 0 ≤ ((ji4) : Int) := dt_; have q114 : (ji4) < (l0_2.length : Int) := dt_; obtain ⟨ad114, e114, hx114_0⟩ := Kd.at_int HR0_2.out (ji4) p114 q114; cases e114; replace hx114_0 := (HB.out.cell (World.block_lt_of_cell? w _ hx114_0)).trans hx114_0; replace p114 := eq_true p114; replace q114 := eq_true q114))
   go_ret
   exact ⟨by first | rfl | (simp [errW_none, errW_some] <;> rfl) | (simp only [← hji4]; first | rfl | (simp [errW_none, errW_some] <;> rfl)) | (simp [*, errW_none, errW_some] <;> rfl), bw1_ HB.out GE113.out⟩
  rw [if_neg c6] at H
  exact absurd H (by simp)
 rw [if_neg c5] at H
 exact absurd H (by simp)


/-! ### spec_l1Le: function 42 -/
def spec_l1Le.f (a0_0 : Int) (l0_1 : List Int) (l0_2 : List Int) (l0_3 : List Bool) (a1 : Int) (a2 : Int) : Option (Bool) := if 0 ≤ (wrap64 ((wrap64 (a1 * a0_0)) + a2)) then (if (wrap64 ((wrap64 (a1 * a0_0)) + a2)) < (l0_3.length : Int) then (some (rdOf false l0_3 (wrap64 ((wrap64 (a1 * a0_0)) + a2)))) else (none)) else (none)
set_option maxHeartbeats 8000000 in
set_option maxRecDepth 100000 in
theorem spec_l1Le.calls (a0_0 : Int) (A0_1 : Option Addr) (c0_1 : Nat) (l0_1 : List Int) (A0_2 : Option Addr) (c0_2 : Nat) (l0_2 : List Int) (A0_3 : Option Addr) (c0_3 : Nat) (l0_3 : List Bool) (a1 : Int) (a2 : Int) (r : Bool) (w : World) (hr0_1 : Kd.C (Kd.int .i64) w A0_1 l0_1.length l0_1) (hc0_1 : l0_1.length ≤ c0_1) (hr0_2 : Kd.C (Kd.int .i64) w A0_2 l0_2.length l0_2) (hc0_2 : l0_2.length ≤ c0_2) (hr0_3 : Kd.C Kd.bool w A0_3 l0_3.length l0_3) (hc0_3 : l0_3.length ≤ c0_3) (h : spec_l1Le.f a0_0 l0_1 l0_2 l0_3 a1 a2 = some r) :
  Calls Try.prog 42 #[.agg #[.int .i64 a0_0, .slice A0_1 l0_1.length c0_1, .slice A0_2 l0_2.length c0_2, .slice A0_3 l0_3.length c0_3], .int .i64 a1, .int .i64 a2] w fun e w' => e = .returned (.bool r) ∧ Below w.heap.size w w' := by
 have hu27 := Try.underlying27
 have HR0_1 := sd_ hr0_1
 have HC0_1 := sd_ hc0_1
 clear hr0_1 hc0_1
 have HR0_2 := sd_ hr0_2
 have HC0_2 := sd_ hc0_2
 clear hr0_2 hc0_2
 have HR0_3 := sd_ hr0_3
 have HC0_3 := sd_ hc0_3
 clear hr0_3 hc0_3
 have HB := sd_ (Below.refl w.heap.size w)
 have H : (if 0 ≤ (wrap64 ((wrap64 (a1 * a0_0)) + a2)) then (if (wrap64 ((wrap64 (a1 * a0_0)) + a2)) < (l0_3.length : Int) then (some (rdOf false l0_3 (wrap64 ((wrap64 (a1 * a0_0)) + a2)))) else (none)) else (none)) = some r := h
 clear h
 obtain ⟨ji4, hji4⟩ : ∃ j_ : Int, (wrap64 ((wrap64 (a1 * a0_0)) + a2)) = j_ := ⟨_, rfl⟩
 replace H : (if 0 ≤ (ji4) then (if (ji4) < (l0_3.length : Int) then (some (rdOf false l0_3 (ji4))) else (none)) else (none)) = some r := by first | (rw [hji4] at H; exact H) | (simp only [hji4] at H ⊢; exact H)
 have hji4w : (IntKind.i64.wrap ((wrap64 (a1 * a0_0)) + a2)) = ji4 := (i64_w _).trans hji4
 by_cases c5 : 0 ≤ (ji4)
 ·rw [if_pos c5] at H
  have c5b0 : decide (0 ≤ (ji4)) = true := decide_eq_true c5
  clear c5
  by_cases c6 : (ji4) < (l0_3.length : Int)
  ·rw [if_pos c6] at H
   have c6b0 : decide ((ji4) < (l0_3.length : Int)) = true := decide_eq_true c6
   clear c6
   obtain rfl := Option.some.inj H
   go_enter Try.func42, Try.ntmps42
   go_wp2_with (first | ((with_reducible refine gate_dst (N := 3) rfl ?_); refine bx_ (N := 3) (cs := #[.int .i64 a0_0, .slice A0_1 l0_1.length c0_1, .slice A0_2 l0_2.length c0_2, .slice A0_3 l0_3.length c0_3]) (t := 27) ?_; intro gb115 hg w7 hbox hb; have BK115 := sd_ (hbox); have GW115 := sd_ (gs_ hg (bw0_ HB.out)); have GE115 := sd_ (gs_ hg (bw0_ HB.out)); replace HB := sd_ (below_step (bw0_ HB.out) hb); clear hb hbox hg; obtain ⟨hcz8_0, hcz8_1, hcz8_2, hcz8_3, hfz8_0, hfz8_1, hfz8_2, hfz8_3⟩ := bf4_ BK115.out; have p116 : 0 ≤ ((ji4) : Int) := dt_; have q116 : (ji4) < (l0_3.length : Int) := dt_; obtain ⟨ad116, e116, hx116_0⟩ := Kd.at_bool HR0_3.out (ji4) p116 q116; cases e116; replace hx116_0 := (HB.out.cell (World.block_lt_of_cell? w _ hx116_0)).trans hx116_0; replace p116 := eq_true p116; replace q116 := eq_true q116))
   go_ret
   exact ⟨by first | rfl | (simp [errW_none, errW_some] <;> rfl) | (simp only [← hji4]; first | rfl | (simp [errW_none, errW_some] <;> rfl)) | (simp [*, errW_none, errW_some] <;> rfl), bw1_ HB.out GE115.out⟩
  rw [if_neg c6] at H
  exact absurd H (by simp)
 rw [if_neg c5] at H
 exact absurd H (by simp)


/-! ### laws_toBoolS: function 43 -/
def laws_toBoolS.l0 : Nat → List Bool → List Bool → Int → Option (List Bool)
 | 0, _, _, _ => none
 | k + 1, x0, x3, x4 => if x4 < (x0.length : Int) then (if 0 ≤ x4 then (if x4 < (x3.length : Int) then (laws_toBoolS.l0 k x0 (x3.set (x4 : Int).toNat (rdOf false x0 x4)) (wrap64 (x4 + 1))) else (none)) else (none)) else (some x3)
def laws_toBoolS.f (k : Nat) (l0 : List Bool) : Option (List Bool) := if 0 ≤ (l0.length : Int) then (if ((l0.length : Int) : Int).toNat ≤ 281474976710656 then (laws_toBoolS.l0 k l0 (List.replicate ((l0.length : Int) : Int).toNat false) 0) else (none)) else (none)
set_option maxHeartbeats 8000000 in
set_option maxRecDepth 100000 in
theorem laws_toBoolS.calls (k : Nat) (A0 : Option Addr) (c0 : Nat) (l0 : List Bool) (r : List Bool) (w : World) (hr0 : Kd.C Kd.bool w A0 l0.length l0) (hc0 : l0.length ≤ c0) (h : laws_toBoolS.f k l0 = some r) :
  Calls Try.prog 43 #[.slice A0 l0.length c0] w fun e w' => ∃ v0_ : Value, e = .returned (v0_) ∧ Kd.R Kd.bool 4 w' w.heap.size (fun _ => True) v0_ r ∧ Below w.heap.size w w' := by
 have HR0 := sd_ hr0
 have HC0 := sd_ hc0
 clear hr0 hc0
 have HB := sd_ (Below.refl w.heap.size w)
 have H : (if 0 ≤ (l0.length : Int) then (if ((l0.length : Int) : Int).toNat ≤ 281474976710656 then (laws_toBoolS.l0 k l0 (List.replicate ((l0.length : Int) : Int).toNat false) 0) else (none)) else (none)) = some r := h
 clear h
 by_cases c2 : 0 ≤ (l0.length : Int)
 ·rw [if_pos c2] at H
  have c2b0 := eq_true c2
  have c2b1 : decide (0 ≤ (l0.length : Int)) = true := decide_eq_true c2
  clear c2
  by_cases c3 : ((l0.length : Int) : Int).toNat ≤ 281474976710656
  ·rw [if_pos c3] at H
   have c3b0 := eq_true c3
   have c3b1 : decide (((l0.length : Int) : Int).toNat ≤ 281474976710656) = true := decide_eq_true c3
   clear c3
   obtain ⟨y212, hy212⟩ : ∃ y_ : List Bool, y_ = (List.replicate ((l0.length : Int) : Int).toNat false) := ⟨_, rfl⟩
   replace H : (laws_toBoolS.l0 k l0 y212 0) = some r := by first | (rw [hy212]; with_reducible exact H) | (have H2_ := (Option.bind_some _ _).symm.trans H; rw [hy212]; with_reducible exact H2_) | (have H2_ := (Option.bind_some _ _).symm.trans H; with_reducible exact H2_) | with_reducible exact H | (rw [hy212]; exact H) | exact H
   have Ny212 := sd_ hy212
   clear hy212
   have H' := sd_ H
   clear H
   go_enter Try.func43, Try.ntmps43
   go_wp2_with (first | ((with_reducible refine gate_dst (N := 7) rfl ?_); refine Kd.R_make Kd.bool _ 4 rfl (N := 7) rfl 23 _ _ rfl (l0.length : Int) rfl rfl Try.underlying23 (.bool false) 1 info4 rfl (by decide) (by omega) false (ok := fun _ => True) (okp := fun _ => True) rfl (fun _ hk => hk) trivial (dt_) (Nat.le_trans (Nat.mul_le_mul_right _ (dt_ : (l0.length : Int).toNat ≤ 281474976710656)) (by omega)) (Below.refl _ _) (Nat.le_refl _) ?_; intro v213 w4 ho5 hb hg_ hnew_; clear hg_ hnew_; (first | rw [← Ny212.out] at ho5 | (simp only [Int.reduceToNat] at ho5; rw [← Ny212.out] at ho5)); have HO214 := sd_ (Kd.R_lower ho5 (below_size (bw0_ HB.out))); replace HB := sd_ (below_step (bw0_ HB.out) hb); clear hb ho5))
   go_loopg [4] k (fun kq v4 w' => ∃ (x3_1 : List Bool) (x4_1 : Int), v4 = .int .i64 x4_1 ∧ Aside0 (laws_toBoolS.l0 kq l0 x3_1 x4_1 = some r) ∧ Aside0 (kq ≤ k) ∧ Aside0 (Kd.R Kd.bool 4 w' w.heap.size (fun _ => True) v213 x3_1) ∧ Aside0 (Below w.heap.size w w'))
   case atStart => exact ⟨(y212), (0), sm_, H', ⟨Nat.le_refl _⟩, ⟨by (with_reducible repeat (first | apply Kd.R_alloc | apply Kd.R_drewN | apply Kd.R_drew)); exact HO214.out⟩, ⟨bw0_ HB.out⟩⟩
   case round =>
    clear H'
    try clear c2
    try clear c2b0
    try clear c2b1
    try clear p2
    try clear c3
    try clear c3b0
    try clear c3b1
    try clear c4
    obtain ⟨x3_1, x4_1, rfl, HA, HK1, HO_3, HB⟩ := hrel
    cases gk with
    | zero => exact absurd HA.out (by simp [laws_toBoolS.l0])
    | succ k1 =>
     have H := HA.out
     clear HA
     simp only [laws_toBoolS.l0] at H
     by_cases c6 : x4_1 < (l0.length : Int)
     ·rw [if_pos c6] at H
      have c6b0 : decide (x4_1 < (l0.length : Int)) = true := decide_eq_true c6
      clear c6
      by_cases c7 : 0 ≤ x4_1
      ·rw [if_pos c7] at H
       have c7b0 : decide (0 ≤ x4_1) = true := decide_eq_true c7
       clear c7
       by_cases c8 : x4_1 < (x3_1.length : Int)
       ·rw [if_pos c8] at H
        have c8b0 : decide (x4_1 < (x3_1.length : Int)) = true := decide_eq_true c8
        clear c8
        obtain ⟨y216, hy216⟩ : ∃ y_ : List Bool, y_ = (x3_1.set (x4_1 : Int).toNat (rdOf false l0 x4_1)) := ⟨_, rfl⟩
        replace H : (laws_toBoolS.l0 k1 l0 y216 (wrap64 (x4_1 + 1))) = some r := by first | (rw [hy216]; with_reducible exact H) | (have H2_ := (Option.bind_some _ _).symm.trans H; rw [hy216]; with_reducible exact H2_) | (have H2_ := (Option.bind_some _ _).symm.trans H; with_reducible exact H2_) | with_reducible exact H | (rw [hy216]; exact H) | exact H
        have Ny216 := sd_ hy216
        clear hy216
        have H' := sd_ H
        clear H
        have p215 : 0 ≤ (x4_1 : Int) := dt_
        have q215 : x4_1 < (l0.length : Int) := dt_
        obtain ⟨ad215, e215, hx215_0⟩ := Kd.at_bool HR0.out x4_1 p215 q215
        cases e215
        replace hx215_0 := (HB.out.cell (World.block_lt_of_cell? w _ hx215_0)).trans hx215_0
        replace p215 := eq_true p215
        replace q215 := eq_true q215
        have p9 : 0 ≤ (x4_1 : Int) := dt_
        have q9 : (x4_1 : Int) < ((x3_1.length : Int) : Int) := dt_
        obtain ⟨go9, co9, eo9, gb9, gl9, cl9, HG9⟩ := Kd.R_form HO_3.out (by omega)
        (first | cases eo9 | (injection eo9 with ea_ en_ ec_; (first | subst ea_ | (injection ea_ with ea_; subst ea_)); subst ec_; clear en_))
        have GB9 := sd_ gb9
        have GG9 := sd_ HG9
        clear gb9 gl9 HG9
        obtain ⟨hx9_0, hf9_0⟩ := Kd.R_celln false HO_3.out (x4_1 : Int) p9 q9
        replace p9 := eq_true p9
        replace q9 := eq_true q9
        have HP10 := Kd.R_putg HO_3.out (x4_1 : Int) (rdOf false l0 x4_1)
        go_wp2_with (first | ((with_reducible refine gate_store (t := 4) (p := 20) rfl ?_); refine store_event (t := 4) (p := 20) (v := ?vo_w11) (w1 := (wr.setCell ⟨go9, (x4_1 : Int).toNat, none⟩ (.bool (rdOf false l0 x4_1)))) ?hg ?ho ?hn ?hr ?_; (case ho => rfl); (case hg => rfl); (case hn => rfl); (case hr => first | (go_simp; done) | (go_simp; rfl)); intro w11 hw; have hg : wr.grownBy w11 (some go9) := (by rw [hw]; exact HP10.2); have hp_ : Kd.R Kd.bool 4 w11 w.heap.size (fun _ => True) (.slice (some ⟨go9, 0, none⟩) x3_1.length co9) y216 := (by rw [hw, Ny216.out]; exact HP10.1); clear HP10; replace HO_3 := sd_ (hp_); replace HB := sd_ ((by rw [hw]; exact below_set (HB.out) GB9.out : Below w.heap.size w w11)); clear hg hw hp_))
        go_roundg k1
        case measure => have := HK1.out; omega
        case rel => exact ⟨(y216), (wrap64 (x4_1 + 1)), sm_, H', ⟨by have := HK1.out; omega⟩, ⟨by (with_reducible repeat (first | apply Kd.R_alloc | apply Kd.R_drewN | apply Kd.R_drew)); exact HO_3.out⟩, ⟨bw0_ HB.out⟩⟩
       rw [if_neg c8] at H
       exact absurd H (by simp)
      rw [if_neg c7] at H
      exact absurd H (by simp)
     rw [if_neg c6] at H
     have c6b0 : decide (x4_1 < (l0.length : Int)) = false := decide_eq_false c6
     clear c6
     obtain rfl := Option.some.inj H
     go_wp2
     go_ret
     exact ⟨_, an_, by (with_reducible repeat (first | apply Kd.R_alloc | apply Kd.R_drewN | apply Kd.R_drew)); exact HO_3.out, bw0_ HB.out⟩
  rw [if_neg c3] at H
  exact absurd H (by simp)
 rw [if_neg c2] at H
 exact absurd H (by simp)


/-! ### impl_System_plus: function 49 -/
def impl_System_plus.f (a0_0 : Int) (l0_1 : List Int) (l0_2 : List Int) (l0_3 : List Bool) (a1 : Int) (a2 : Int) : Option (Int) := if 0 ≤ (wrap64 ((wrap64 (a1 * a0_0)) + a2)) then (if (wrap64 ((wrap64 (a1 * a0_0)) + a2)) < (l0_1.length : Int) then (some (rd l0_1 (wrap64 ((wrap64 (a1 * a0_0)) + a2)))) else (none)) else (none)
set_option maxHeartbeats 8000000 in
set_option maxRecDepth 100000 in
theorem impl_System_plus.calls (a0_0 : Int) (A0_1 : Option Addr) (c0_1 : Nat) (l0_1 : List Int) (A0_2 : Option Addr) (c0_2 : Nat) (l0_2 : List Int) (A0_3 : Option Addr) (c0_3 : Nat) (l0_3 : List Bool) (a1 : Int) (a2 : Int) (r : Int) (w : World) (hr0_1 : Kd.C (Kd.int .i64) w A0_1 l0_1.length l0_1) (hc0_1 : l0_1.length ≤ c0_1) (hr0_2 : Kd.C (Kd.int .i64) w A0_2 l0_2.length l0_2) (hc0_2 : l0_2.length ≤ c0_2) (hr0_3 : Kd.C Kd.bool w A0_3 l0_3.length l0_3) (hc0_3 : l0_3.length ≤ c0_3) (h : impl_System_plus.f a0_0 l0_1 l0_2 l0_3 a1 a2 = some r) :
  Calls Try.prog 49 #[.agg #[.int .i64 a0_0, .slice A0_1 l0_1.length c0_1, .slice A0_2 l0_2.length c0_2, .slice A0_3 l0_3.length c0_3], .int .i64 a1, .int .i64 a2] w fun e w' => e = .returned (.int .i64 r) ∧ Below w.heap.size w w' := by
 have hu27 := Try.underlying27
 have HR0_1 := sd_ hr0_1
 have HC0_1 := sd_ hc0_1
 clear hr0_1 hc0_1
 have HR0_2 := sd_ hr0_2
 have HC0_2 := sd_ hc0_2
 clear hr0_2 hc0_2
 have HR0_3 := sd_ hr0_3
 have HC0_3 := sd_ hc0_3
 clear hr0_3 hc0_3
 have HB := sd_ (Below.refl w.heap.size w)
 have H : (if 0 ≤ (wrap64 ((wrap64 (a1 * a0_0)) + a2)) then (if (wrap64 ((wrap64 (a1 * a0_0)) + a2)) < (l0_1.length : Int) then (some (rd l0_1 (wrap64 ((wrap64 (a1 * a0_0)) + a2)))) else (none)) else (none)) = some r := h
 clear h
 obtain ⟨ji4, hji4⟩ : ∃ j_ : Int, (wrap64 ((wrap64 (a1 * a0_0)) + a2)) = j_ := ⟨_, rfl⟩
 replace H : (if 0 ≤ (ji4) then (if (ji4) < (l0_1.length : Int) then (some (rd l0_1 (ji4))) else (none)) else (none)) = some r := by first | (rw [hji4] at H; exact H) | (simp only [hji4] at H ⊢; exact H)
 have hji4w : (IntKind.i64.wrap ((wrap64 (a1 * a0_0)) + a2)) = ji4 := (i64_w _).trans hji4
 by_cases c5 : 0 ≤ (ji4)
 ·rw [if_pos c5] at H
  have c5b0 : decide (0 ≤ (ji4)) = true := decide_eq_true c5
  clear c5
  by_cases c6 : (ji4) < (l0_1.length : Int)
  ·rw [if_pos c6] at H
   have c6b0 : decide ((ji4) < (l0_1.length : Int)) = true := decide_eq_true c6
   clear c6
   obtain rfl := Option.some.inj H
   go_enter Try.func49, Try.ntmps49
   go_wp2_with (first | ((with_reducible refine gate_dst (N := 3) rfl ?_); refine bx_ (N := 3) (cs := #[.int .i64 a0_0, .slice A0_1 l0_1.length c0_1, .slice A0_2 l0_2.length c0_2, .slice A0_3 l0_3.length c0_3]) (t := 27) ?_; intro gb229 hg w7 hbox hb; have BK229 := sd_ (hbox); have GW229 := sd_ (gs_ hg (bw0_ HB.out)); have GE229 := sd_ (gs_ hg (bw0_ HB.out)); replace HB := sd_ (below_step (bw0_ HB.out) hb); clear hb hbox hg; obtain ⟨hcz8_0, hcz8_1, hcz8_2, hcz8_3, hfz8_0, hfz8_1, hfz8_2, hfz8_3⟩ := bf4_ BK229.out; have p230 : 0 ≤ ((ji4) : Int) := dt_; have q230 : (ji4) < (l0_1.length : Int) := dt_; obtain ⟨ad230, e230, hx230_0⟩ := Kd.at_int HR0_1.out (ji4) p230 q230; cases e230; replace hx230_0 := (HB.out.cell (World.block_lt_of_cell? w _ hx230_0)).trans hx230_0; replace p230 := eq_true p230; replace q230 := eq_true q230))
   go_ret
   exact ⟨by first | rfl | (simp [errW_none, errW_some] <;> rfl) | (simp only [← hji4]; first | rfl | (simp [errW_none, errW_some] <;> rfl)) | (simp [*, errW_none, errW_some] <;> rfl), bw1_ HB.out GE229.out⟩
  rw [if_neg c6] at H
  exact absurd H (by simp)
 rw [if_neg c5] at H
 exact absurd H (by simp)

end Go.Proofs.Ytipfkicndjddgaa.P
end
