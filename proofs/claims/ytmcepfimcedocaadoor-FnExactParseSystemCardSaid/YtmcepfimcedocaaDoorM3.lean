-- Several texts in one (wip/tools/merge.py).
import Derived.Test.YtmcepfimcedocaaDoorP0
import Derived.Test.YtmcepfimcedocaaDoorM1
section
/-! shorter words -/
namespace Go.Proofs.YtmcepfimcedocaaDoor.P
open Go.RowKit Go.Proofs.YtmcepfimcedocaaDoorW.PrintWords Go.Proofs.YtmcepfimcedocaaDoorW.PrintLast Go.Proofs.YtmcepfimcedocaaDoorW.PrintMore
attribute [local go_sem] max2_int min2_int max_two min_two max_three min_three max_four min_four   -- for this text's walks alone
set_option linter.unusedVariables false
set_option linter.unusedSimpArgs false

/-! ### spec_l1Decimal: function 38 -/
def spec_l1Decimal.f : Nat → Int → Option (ByteArray)
 | 0, _ => none
 | k + 1, a0 => (some (([(wrap64 (48 + (Int.tmod a0 10))) % 256] : List Int) : List Int)).bind fun y110 => (if a0 ≥ 10 then ((spec_l1Decimal.f k (wrap64 (Int.tdiv a0 10))).bind fun t113 => (if t113.size + (strOfNums y110).size ≤ 9223372036854775807 then (some (t113 ++ (strOfNums y110))) else (none))) else (some (strOfNums y110)))
set_option maxHeartbeats 8000000 in
set_option maxRecDepth 100000 in
theorem spec_l1Decimal.calls (k : Nat) : ∀ (a0 : Int) (r : ByteArray) (w : World) (h : spec_l1Decimal.f k a0 = some r),
  Calls Tryd.prog 38 #[.int .i64 a0] w fun e w' => e = .returned (.string r) ∧ Below w.heap.size w w' := by
 induction k using Nat.strongRecOn with
 | _ k ih =>
 intro a0 r w h
 cases k with
 | zero => exact absurd h (by simp [spec_l1Decimal.f])
 | succ k =>
 simp only [spec_l1Decimal.f] at h; have HB := sd_ (Below.refl w.heap.size w); have H : ((some (([(wrap64 (48 + (Int.tmod a0 10))) % 256] : List Int) : List Int)).bind fun y110 => (if a0 ≥ 10 then ((spec_l1Decimal.f k (wrap64 (Int.tdiv a0 10))).bind fun t113 => (if t113.size + (strOfNums y110).size ≤ 9223372036854775807 then (some (t113 ++ (strOfNums y110))) else (none))) else (some (strOfNums y110)))) = some r := h; clear h
 revert H; refine oy_ fun y110 Ny110 H => ?_
 have HP2 := sd_ H; clear H; go_enter Tryd.func38, Tryd.ntmps38; go_upto_if 11 with (first | ((with_reducible refine gate_dst (N := 8) rfl ?_); refine Kd.R_lit (Kd.int .u8) _ 5 ?hg (N := 8) ?hd (xs := ([(wrap64 (48 + (Int.tmod a0 10))) % 256] : List Int)) (inner := [.int .u8 ((wrap64 (48 + (Int.tmod a0 10))) % 256)]) (ok := fun _ => True) (okp := fun _ => True) ?hr ?hp (fun _ hk => hk) trivial (Below.refl _ _) (Nat.le_refl _) (by simp) ?_; (case hd => rfl); (case hg => rfl); (case hr => first | (go_simp; done) | (go_simp; rfl)); (case hp => exact (Reps.one (show Kd.M (Kd.int .u8) _ _ _ ((wrap64 (48 + (Int.tmod a0 10))) % 256) [.int .u8 ((wrap64 (48 + (Int.tmod a0 10))) % 256)] from rfl) (Reps.none _ _))); intro v111 w3 ho4 hb hg_ hnew_; clear hg_ hnew_; (first | rw [← Ny110.out] at ho4 | (simp only [Int.reduceToNat] at ho4; rw [← Ny110.out] at ho4)); have HO112 := sd_ (Kd.R_lower ho4 (below_size (bw0_ HB.out))); replace HB := sd_ (below_step (bw0_ HB.out) hb); clear hb ho4; have hcv5 := own_string (P := Tryd.prog) Tryd.underlying68 Tryd.underlying5 Tryd.underlying9 (Kd.own_of_R HO112.out))); have H := HP2.out; clear HP2; by_cases c6 : a0 ≥ 10
 ·rw [if_pos c6] at H; have c6b0 : decide (10 ≤ a0) = true := decide_eq_true c6; clear c6; (first | rw [c6b0] | (simp only [i64_w, i32_w]; rw [c6b0]) | skip)
  revert H; refine ob_ fun t113 A7 H => ?_
  by_cases c8 : t113.size + (strOfNums y110).size ≤ 9223372036854775807
  ·rw [if_pos c8] at H; have c8b0 := eq_true c8; have c8b1 : decide (t113.size + (strOfNums y110).size ≤ 9223372036854775807) = true := decide_eq_true c8
   try have c8b2 : (9223372036854775807 < t113.size + (strOfNums y110).size) = False := eq_false (Nat.not_lt.2 c8)
   obtain rfl := Option.some.inj H; go_wp2_with (first | ((with_reducible refine gate_callee (f := 38) rfl ?_); refine goesL_ (some 14) rfl rfl Tryd.func38 (by kernel_rfl) rfl #[.int .i64 (wrap64 (Int.tdiv a0 10))] rfl la_ ?_; (with_reducible refine (ih k (by omega) (wrap64 (Int.tdiv a0 10)) t113 _ A7.out).mono ?_); rintro e w9 ⟨rfl, hb⟩; refine ⟨_, rfl, ?_⟩; replace HO112 := sd_ (Kd.R_below (ro_ HO112.out) hb); replace HB := sd_ (below_step (bw0_ HB.out) hb); (try clear hb))); go_ret; exact ⟨an_, bw0_ HB.out⟩
  rw [if_neg c8] at H; exact absurd H (by simp)
 rw [if_neg c6] at H; have c6b0 : decide (10 ≤ a0) = false := decide_eq_false c6; clear c6; (first | rw [c6b0] | (simp only [i64_w, i32_w]; rw [c6b0]) | skip); obtain rfl := Option.some.inj H; go_wp2; go_ret; exact ⟨an_, bw0_ HB.out⟩

/-! ### spec_l1First: function 44 -/
def spec_l1First.f (a0 : Int) (a1 : Int) : Option (Int) := if a1 = 0 then (some 0) else (if a1 = 1 then (some 1) else (if a1 ≤ (wrap64 (a0 + 1)) then (if a0 = 0 then (none) else (some (wrap64 (Int.tdiv (wrap64 (a1 - 1)) a0)))) else (if a0 = 0 then (none) else (some (wrap64 (Int.tdiv a1 a0))))))
set_option maxHeartbeats 8000000 in
set_option maxRecDepth 100000 in
theorem spec_l1First.calls (a0 : Int) (a1 : Int) (r : Int) (w : World) (h : spec_l1First.f a0 a1 = some r) :
  Calls Tryd.prog 44 #[.int .i64 a0, .int .i64 a1] w fun e w' => e = .returned (.int .i64 r) ∧ Drawn0 w w' := by
 have H : (if a1 = 0 then (some 0) else (if a1 = 1 then (some 1) else (if a1 ≤ (wrap64 (a0 + 1)) then (if a0 = 0 then (none) else (some (wrap64 (Int.tdiv (wrap64 (a1 - 1)) a0)))) else (if a0 = 0 then (none) else (some (wrap64 (Int.tdiv a1 a0))))))) = some r := h; clear h; by_cases c3 : a1 = 0
 ·rw [if_pos c3] at H; have c3b0 : (a1 == 0) = true := beq_iff_eq.mpr c3; have c3b1 : (a1 != 0) = false := bne_eq_false_iff_eq.mpr c3; clear c3; obtain rfl := Option.some.inj H; go_enter Tryd.func44, Tryd.ntmps44; go_wp2; go_ret; exact ⟨by first | rfl | (simp; done) | (simp [*]; done), by repeat (first | exact Drawn0.refl _ | apply Drawn0.step)⟩
 rw [if_neg c3] at H; have c3b0 : (a1 == 0) = false := beq_eq_false_iff_ne.mpr c3; have c3b1 : (a1 != 0) = true := bne_iff_ne.mpr c3; by_cases c4 : a1 = 1
 ·rw [if_pos c4] at H; have c4b0 : (a1 == 1) = true := beq_iff_eq.mpr c4; have c4b1 : (a1 != 1) = false := bne_eq_false_iff_eq.mpr c4; clear c4; obtain rfl := Option.some.inj H; go_enter Tryd.func44, Tryd.ntmps44; go_wp2; go_ret; exact ⟨by first | rfl | (simp; done) | (simp [*]; done), by repeat (first | exact Drawn0.refl _ | apply Drawn0.step)⟩
 rw [if_neg c4] at H; have c4b0 : (a1 == 1) = false := beq_eq_false_iff_ne.mpr c4; have c4b1 : (a1 != 1) = true := bne_iff_ne.mpr c4; revert H; refine ic_ (fun c5b0 H => ?_) (fun c5b0 H => ?_)
 ·by_cases c6 : a0 = 0
  ·rw [if_pos c6] at H; exact absurd H (by simp)
  rw [if_neg c6] at H; have c6b0 : (a0 == 0) = false := beq_eq_false_iff_ne.mpr c6; have c6b1 : (a0 != 0) = true := bne_iff_ne.mpr c6; obtain rfl := Option.some.inj H; go_enter Tryd.func44, Tryd.ntmps44; go_wp2; go_ret; exact ⟨by first | rfl | (simp; done) | (simp [*]; done), by repeat (first | exact Drawn0.refl _ | apply Drawn0.step)⟩
 by_cases c7 : a0 = 0
 ·rw [if_pos c7] at H; exact absurd H (by simp)
 rw [if_neg c7] at H; have c7b0 : (a0 == 0) = false := beq_eq_false_iff_ne.mpr c7; have c7b1 : (a0 != 0) = true := bne_iff_ne.mpr c7; obtain rfl := Option.some.inj H; go_enter Tryd.func44, Tryd.ntmps44; go_wp2; go_ret; exact ⟨by first | rfl | (simp; done) | (simp [*]; done), by repeat (first | exact Drawn0.refl _ | apply Drawn0.step)⟩

/-! ### spec_l1Pair: function 46 -/
def spec_l1Pair.f (a0 : Int) (a1 : Int) (a2 : Int) : Option (Int) := if (wrap64 ((wrap64 (a1 * a0)) + a2)) = 0 then (some 0) else (if (wrap64 ((wrap64 (a1 * a0)) + a2)) = (wrap64 (a0 + 1)) then (some 1) else (if (wrap64 ((wrap64 (a1 * a0)) + a2)) < (wrap64 (a0 + 1)) then (some (wrap64 ((wrap64 ((wrap64 (a1 * a0)) + a2)) + 1))) else (some (wrap64 ((wrap64 (a1 * a0)) + a2)))))
set_option maxHeartbeats 8000000 in
set_option maxRecDepth 100000 in
theorem spec_l1Pair.calls (a0 : Int) (a1 : Int) (a2 : Int) (r : Int) (w : World) (h : spec_l1Pair.f a0 a1 a2 = some r) :
  Calls Tryd.prog 46 #[.int .i64 a0, .int .i64 a1, .int .i64 a2] w fun e w' => e = .returned (.int .i64 r) ∧ Drawn0 w w' := by
 have H : (if (wrap64 ((wrap64 (a1 * a0)) + a2)) = 0 then (some 0) else (if (wrap64 ((wrap64 (a1 * a0)) + a2)) = (wrap64 (a0 + 1)) then (some 1) else (if (wrap64 ((wrap64 (a1 * a0)) + a2)) < (wrap64 (a0 + 1)) then (some (wrap64 ((wrap64 ((wrap64 (a1 * a0)) + a2)) + 1))) else (some (wrap64 ((wrap64 (a1 * a0)) + a2)))))) = some r := h; clear h; by_cases c4 : (wrap64 ((wrap64 (a1 * a0)) + a2)) = 0
 ·rw [if_pos c4] at H; have c4b0 : ((wrap64 ((wrap64 (a1 * a0)) + a2)) == 0) = true := beq_iff_eq.mpr c4; have c4b1 : ((wrap64 ((wrap64 (a1 * a0)) + a2)) != 0) = false := bne_eq_false_iff_eq.mpr c4; clear c4; obtain rfl := Option.some.inj H; go_enter Tryd.func46, Tryd.ntmps46; go_wp2; go_ret; exact ⟨by first | rfl | (simp; done) | (simp [*]; done), by repeat (first | exact Drawn0.refl _ | apply Drawn0.step)⟩
 rw [if_neg c4] at H; have c4b0 : ((wrap64 ((wrap64 (a1 * a0)) + a2)) == 0) = false := beq_eq_false_iff_ne.mpr c4; have c4b1 : ((wrap64 ((wrap64 (a1 * a0)) + a2)) != 0) = true := bne_iff_ne.mpr c4; by_cases c5 : (wrap64 ((wrap64 (a1 * a0)) + a2)) = (wrap64 (a0 + 1))
 ·rw [if_pos c5] at H; have c5b0 : ((wrap64 ((wrap64 (a1 * a0)) + a2)) == (wrap64 (a0 + 1))) = true := beq_iff_eq.mpr c5; have c5b1 : ((wrap64 ((wrap64 (a1 * a0)) + a2)) != (wrap64 (a0 + 1))) = false := bne_eq_false_iff_eq.mpr c5; clear c5; obtain rfl := Option.some.inj H; go_enter Tryd.func46, Tryd.ntmps46; go_wp2; go_ret; exact ⟨by first | rfl | (simp; done) | (simp [*]; done), by repeat (first | exact Drawn0.refl _ | apply Drawn0.step)⟩
 rw [if_neg c5] at H; have c5b0 : ((wrap64 ((wrap64 (a1 * a0)) + a2)) == (wrap64 (a0 + 1))) = false := beq_eq_false_iff_ne.mpr c5; have c5b1 : ((wrap64 ((wrap64 (a1 * a0)) + a2)) != (wrap64 (a0 + 1))) = true := bne_iff_ne.mpr c5; revert H; refine ic_ (fun c6b0 H => ?_) (fun c6b0 H => ?_)
 ·obtain rfl := Option.some.inj H; go_enter Tryd.func46, Tryd.ntmps46; go_wp2; go_ret; exact ⟨by first | rfl | (simp; done) | (simp [*]; done), by repeat (first | exact Drawn0.refl _ | apply Drawn0.step)⟩
 obtain rfl := Option.some.inj H; go_enter Tryd.func46, Tryd.ntmps46; go_wp2; go_ret; exact ⟨by first | rfl | (simp; done) | (simp [*]; done), by repeat (first | exact Drawn0.refl _ | apply Drawn0.step)⟩

/-! ### spec_l1Add: function 47 -/
def spec_l1Add.f (a0_0 : Int) (l0_1 : List Int) (l0_2 : List Int) (l0_3 : List Bool) (a1 : Int) (a2 : Int) : Option (Int) := if 0 ≤ (wrap64 ((wrap64 (a1 * a0_0)) + a2)) then (if (wrap64 ((wrap64 (a1 * a0_0)) + a2)) < (l0_1.length : Int) then (some (rd l0_1 (wrap64 ((wrap64 (a1 * a0_0)) + a2)))) else (none)) else (none)
set_option maxHeartbeats 8000000 in
set_option maxRecDepth 100000 in
theorem spec_l1Add.calls (a0_0 : Int) (A0_1 : Option Addr) (c0_1 : Nat) (l0_1 : List Int) (A0_2 : Option Addr) (c0_2 : Nat) (l0_2 : List Int) (A0_3 : Option Addr) (c0_3 : Nat) (l0_3 : List Bool) (a1 : Int) (a2 : Int) (r : Int) (w : World) (hr0_1 : Kd.C (Kd.int .i64) w A0_1 l0_1.length l0_1) (hc0_1 : l0_1.length ≤ c0_1) (hr0_2 : Kd.C (Kd.int .i64) w A0_2 l0_2.length l0_2) (hc0_2 : l0_2.length ≤ c0_2) (hr0_3 : Kd.C Kd.bool w A0_3 l0_3.length l0_3) (hc0_3 : l0_3.length ≤ c0_3) (h : spec_l1Add.f a0_0 l0_1 l0_2 l0_3 a1 a2 = some r) :
  Calls Tryd.prog 47 #[.agg #[.int .i64 a0_0, .slice A0_1 l0_1.length c0_1, .slice A0_2 l0_2.length c0_2, .slice A0_3 l0_3.length c0_3], .int .i64 a1, .int .i64 a2] w fun e w' => e = .returned (.int .i64 r) ∧ Below w.heap.size w w' := by
 have hu28 := Tryd.underlying28; have HR0_1 := sd_ hr0_1; have HC0_1 := sd_ hc0_1; clear hr0_1 hc0_1; have HR0_2 := sd_ hr0_2; have HC0_2 := sd_ hc0_2; clear hr0_2 hc0_2; have HR0_3 := sd_ hr0_3; have HC0_3 := sd_ hc0_3; clear hr0_3 hc0_3; have HB := sd_ (Below.refl w.heap.size w); have H : (if 0 ≤ (wrap64 ((wrap64 (a1 * a0_0)) + a2)) then (if (wrap64 ((wrap64 (a1 * a0_0)) + a2)) < (l0_1.length : Int) then (some (rd l0_1 (wrap64 ((wrap64 (a1 * a0_0)) + a2)))) else (none)) else (none)) = some r := h; clear h; obtain ⟨ji4, hji4⟩ : ∃ j_ : Int, (wrap64 ((wrap64 (a1 * a0_0)) + a2)) = j_ := ⟨_, rfl⟩
 replace H : (if 0 ≤ (ji4) then (if (ji4) < (l0_1.length : Int) then (some (rd l0_1 (ji4))) else (none)) else (none)) = some r := by first | (rw [hji4] at H; exact H) | (simp only [hji4] at H ⊢; exact H)
 have hji4w : (IntKind.i64.wrap ((wrap64 (a1 * a0_0)) + a2)) = ji4 := (i64_w _).trans hji4
 revert H; refine ih_ fun c5b0 H => ?_
 revert H; refine ih_ fun c6b0 H => ?_
 obtain rfl := Option.some.inj H; go_enter Tryd.func47, Tryd.ntmps47; go_wp2_with (first | ((with_reducible refine gate_dst (N := 3) rfl ?_); refine bx_ (N := 3) (cs := #[.int .i64 a0_0, .slice A0_1 l0_1.length c0_1, .slice A0_2 l0_2.length c0_2, .slice A0_3 l0_3.length c0_3]) (t := 28) ?_; intro gb211 hg w7 hbox hb; have BK211 := sd_ (hbox); have GW211 := sd_ (gs_ hg (bw0_ HB.out)); have GE211 := sd_ (gs_ hg (bw0_ HB.out)); replace HB := sd_ (below_step (bw0_ HB.out) hb); clear hb hbox hg; obtain ⟨z8_0, z8_1, z8_2, z8_3, f8_0, f8_1, f8_2, f8_3⟩ := bf4_ BK211.out; obtain ⟨ad212, e212, hx212_0, p212, q212⟩ := ai_ HR0_1.out HB.out (ji4); cases e212)); go_ret; exact ⟨by first | rfl | (simp [errW_none, errW_some] <;> rfl) | (simp only [← hji4]; first | rfl | (simp [errW_none, errW_some] <;> rfl)) | (simp [*, errW_none, errW_some] <;> rfl), bw1_ HB.out GE211.out⟩

/-! ### spec_l1Mul: function 48 -/
def spec_l1Mul.f (a0_0 : Int) (l0_1 : List Int) (l0_2 : List Int) (l0_3 : List Bool) (a1 : Int) (a2 : Int) : Option (Int) := if 0 ≤ (wrap64 ((wrap64 (a1 * a0_0)) + a2)) then (if (wrap64 ((wrap64 (a1 * a0_0)) + a2)) < (l0_2.length : Int) then (some (rd l0_2 (wrap64 ((wrap64 (a1 * a0_0)) + a2)))) else (none)) else (none)
set_option maxHeartbeats 8000000 in
set_option maxRecDepth 100000 in
theorem spec_l1Mul.calls (a0_0 : Int) (A0_1 : Option Addr) (c0_1 : Nat) (l0_1 : List Int) (A0_2 : Option Addr) (c0_2 : Nat) (l0_2 : List Int) (A0_3 : Option Addr) (c0_3 : Nat) (l0_3 : List Bool) (a1 : Int) (a2 : Int) (r : Int) (w : World) (hr0_1 : Kd.C (Kd.int .i64) w A0_1 l0_1.length l0_1) (hc0_1 : l0_1.length ≤ c0_1) (hr0_2 : Kd.C (Kd.int .i64) w A0_2 l0_2.length l0_2) (hc0_2 : l0_2.length ≤ c0_2) (hr0_3 : Kd.C Kd.bool w A0_3 l0_3.length l0_3) (hc0_3 : l0_3.length ≤ c0_3) (h : spec_l1Mul.f a0_0 l0_1 l0_2 l0_3 a1 a2 = some r) :
  Calls Tryd.prog 48 #[.agg #[.int .i64 a0_0, .slice A0_1 l0_1.length c0_1, .slice A0_2 l0_2.length c0_2, .slice A0_3 l0_3.length c0_3], .int .i64 a1, .int .i64 a2] w fun e w' => e = .returned (.int .i64 r) ∧ Below w.heap.size w w' := by
 have hu28 := Tryd.underlying28; have HR0_1 := sd_ hr0_1; have HC0_1 := sd_ hc0_1; clear hr0_1 hc0_1; have HR0_2 := sd_ hr0_2; have HC0_2 := sd_ hc0_2; clear hr0_2 hc0_2; have HR0_3 := sd_ hr0_3; have HC0_3 := sd_ hc0_3; clear hr0_3 hc0_3; have HB := sd_ (Below.refl w.heap.size w); have H : (if 0 ≤ (wrap64 ((wrap64 (a1 * a0_0)) + a2)) then (if (wrap64 ((wrap64 (a1 * a0_0)) + a2)) < (l0_2.length : Int) then (some (rd l0_2 (wrap64 ((wrap64 (a1 * a0_0)) + a2)))) else (none)) else (none)) = some r := h; clear h; obtain ⟨ji4, hji4⟩ : ∃ j_ : Int, (wrap64 ((wrap64 (a1 * a0_0)) + a2)) = j_ := ⟨_, rfl⟩
 replace H : (if 0 ≤ (ji4) then (if (ji4) < (l0_2.length : Int) then (some (rd l0_2 (ji4))) else (none)) else (none)) = some r := by first | (rw [hji4] at H; exact H) | (simp only [hji4] at H ⊢; exact H)
 have hji4w : (IntKind.i64.wrap ((wrap64 (a1 * a0_0)) + a2)) = ji4 := (i64_w _).trans hji4
 revert H; refine ih_ fun c5b0 H => ?_
 revert H; refine ih_ fun c6b0 H => ?_
 obtain rfl := Option.some.inj H; go_enter Tryd.func48, Tryd.ntmps48; go_wp2_with (first | ((with_reducible refine gate_dst (N := 3) rfl ?_); refine bx_ (N := 3) (cs := #[.int .i64 a0_0, .slice A0_1 l0_1.length c0_1, .slice A0_2 l0_2.length c0_2, .slice A0_3 l0_3.length c0_3]) (t := 28) ?_; intro gb213 hg w7 hbox hb; have BK213 := sd_ (hbox); have GW213 := sd_ (gs_ hg (bw0_ HB.out)); have GE213 := sd_ (gs_ hg (bw0_ HB.out)); replace HB := sd_ (below_step (bw0_ HB.out) hb); clear hb hbox hg; obtain ⟨z8_0, z8_1, z8_2, z8_3, f8_0, f8_1, f8_2, f8_3⟩ := bf4_ BK213.out; obtain ⟨ad214, e214, hx214_0, p214, q214⟩ := ai_ HR0_2.out HB.out (ji4); cases e214)); go_ret; exact ⟨by first | rfl | (simp [errW_none, errW_some] <;> rfl) | (simp only [← hji4]; first | rfl | (simp [errW_none, errW_some] <;> rfl)) | (simp [*, errW_none, errW_some] <;> rfl), bw1_ HB.out GE213.out⟩

/-! ### spec_l1Le: function 49 -/
def spec_l1Le.f (a0_0 : Int) (l0_1 : List Int) (l0_2 : List Int) (l0_3 : List Bool) (a1 : Int) (a2 : Int) : Option (Bool) := if 0 ≤ (wrap64 ((wrap64 (a1 * a0_0)) + a2)) then (if (wrap64 ((wrap64 (a1 * a0_0)) + a2)) < (l0_3.length : Int) then (some (rdOf false l0_3 (wrap64 ((wrap64 (a1 * a0_0)) + a2)))) else (none)) else (none)
set_option maxHeartbeats 8000000 in
set_option maxRecDepth 100000 in
theorem spec_l1Le.calls (a0_0 : Int) (A0_1 : Option Addr) (c0_1 : Nat) (l0_1 : List Int) (A0_2 : Option Addr) (c0_2 : Nat) (l0_2 : List Int) (A0_3 : Option Addr) (c0_3 : Nat) (l0_3 : List Bool) (a1 : Int) (a2 : Int) (r : Bool) (w : World) (hr0_1 : Kd.C (Kd.int .i64) w A0_1 l0_1.length l0_1) (hc0_1 : l0_1.length ≤ c0_1) (hr0_2 : Kd.C (Kd.int .i64) w A0_2 l0_2.length l0_2) (hc0_2 : l0_2.length ≤ c0_2) (hr0_3 : Kd.C Kd.bool w A0_3 l0_3.length l0_3) (hc0_3 : l0_3.length ≤ c0_3) (h : spec_l1Le.f a0_0 l0_1 l0_2 l0_3 a1 a2 = some r) :
  Calls Tryd.prog 49 #[.agg #[.int .i64 a0_0, .slice A0_1 l0_1.length c0_1, .slice A0_2 l0_2.length c0_2, .slice A0_3 l0_3.length c0_3], .int .i64 a1, .int .i64 a2] w fun e w' => e = .returned (.bool r) ∧ Below w.heap.size w w' := by
 have hu28 := Tryd.underlying28; have HR0_1 := sd_ hr0_1; have HC0_1 := sd_ hc0_1; clear hr0_1 hc0_1; have HR0_2 := sd_ hr0_2; have HC0_2 := sd_ hc0_2; clear hr0_2 hc0_2; have HR0_3 := sd_ hr0_3; have HC0_3 := sd_ hc0_3; clear hr0_3 hc0_3; have HB := sd_ (Below.refl w.heap.size w); have H : (if 0 ≤ (wrap64 ((wrap64 (a1 * a0_0)) + a2)) then (if (wrap64 ((wrap64 (a1 * a0_0)) + a2)) < (l0_3.length : Int) then (some (rdOf false l0_3 (wrap64 ((wrap64 (a1 * a0_0)) + a2)))) else (none)) else (none)) = some r := h; clear h; obtain ⟨ji4, hji4⟩ : ∃ j_ : Int, (wrap64 ((wrap64 (a1 * a0_0)) + a2)) = j_ := ⟨_, rfl⟩
 replace H : (if 0 ≤ (ji4) then (if (ji4) < (l0_3.length : Int) then (some (rdOf false l0_3 (ji4))) else (none)) else (none)) = some r := by first | (rw [hji4] at H; exact H) | (simp only [hji4] at H ⊢; exact H)
 have hji4w : (IntKind.i64.wrap ((wrap64 (a1 * a0_0)) + a2)) = ji4 := (i64_w _).trans hji4
 revert H; refine ih_ fun c5b0 H => ?_
 revert H; refine ih_ fun c6b0 H => ?_
 obtain rfl := Option.some.inj H; go_enter Tryd.func49, Tryd.ntmps49; go_wp2_with (first | ((with_reducible refine gate_dst (N := 3) rfl ?_); refine bx_ (N := 3) (cs := #[.int .i64 a0_0, .slice A0_1 l0_1.length c0_1, .slice A0_2 l0_2.length c0_2, .slice A0_3 l0_3.length c0_3]) (t := 28) ?_; intro gb215 hg w7 hbox hb; have BK215 := sd_ (hbox); have GW215 := sd_ (gs_ hg (bw0_ HB.out)); have GE215 := sd_ (gs_ hg (bw0_ HB.out)); replace HB := sd_ (below_step (bw0_ HB.out) hb); clear hb hbox hg; obtain ⟨z8_0, z8_1, z8_2, z8_3, f8_0, f8_1, f8_2, f8_3⟩ := bf4_ BK215.out; obtain ⟨ad216, e216, hx216_0, p216, q216⟩ := ab_ HR0_3.out HB.out (ji4); cases e216)); go_ret; exact ⟨by first | rfl | (simp [errW_none, errW_some] <;> rfl) | (simp only [← hji4]; first | rfl | (simp [errW_none, errW_some] <;> rfl)) | (simp [*, errW_none, errW_some] <;> rfl), bw1_ HB.out GE215.out⟩

end Go.Proofs.YtmcepfimcedocaaDoor.P
end

section
/-! shorter words -/
namespace Go.Proofs.YtmcepfimcedocaaDoor.P
open Go.RowKit Go.Proofs.YtmcepfimcedocaaDoorW.PrintWords Go.Proofs.YtmcepfimcedocaaDoorW.PrintLast Go.Proofs.YtmcepfimcedocaaDoorW.PrintMore
attribute [local go_sem] max2_int min2_int max_two min_two max_three min_three max_four min_four   -- for this text's walks alone
set_option linter.unusedVariables false
set_option linter.unusedSimpArgs false

attribute [local go_sem high] eqA64
/-! ### slices_Index_2_int_2_int: function 59 -/
def slices_Index_2_int_2_int.l0 : Nat → List (S64) → Int → Int → Int → Int → Option (Int)
 | 0, _, _, _, _, _ => none
 | k + 1, x0, x7, x8, x432000, x432001 => if x8 < x7 then (if 0 ≤ x8 then (if x8 < (x0.length : Int) then (if (x432000 == ((rd_T64 x0 x8).f0) && (x432001 == ((rd_T64 x0 x8).f1))) = true then (some x8) else (slices_Index_2_int_2_int.l0 k x0 x7 (wrap64 (x8 + 1)) x432000 x432001)) else (none)) else (none)) else (some (-1))
def slices_Index_2_int_2_int.f (k : Nat) (l0 : List (S64)) (a1_0 : Int) (a1_1 : Int) : Option (Int) := slices_Index_2_int_2_int.l0 k l0 (l0.length : Int) 0 a1_0 a1_1
set_option maxHeartbeats 8000000 in
set_option maxRecDepth 100000 in
theorem slices_Index_2_int_2_int.calls (k : Nat) (A0 : Option Addr) (c0 : Nat) (l0 : List (S64)) (a1_0 : Int) (a1_1 : Int) (r : Int) (w : World) (hr0 : Kd.C k64 w A0 l0.length l0) (hc0 : l0.length ≤ c0) (h : slices_Index_2_int_2_int.f k l0 a1_0 a1_1 = some r) :
  Calls Tryd.prog 59 #[.slice A0 l0.length c0, .agg #[.int .i64 a1_0, .int .i64 a1_1]] w fun e w' => e = .returned (.int .i64 r) ∧ Below w.heap.size w w' := by
 have hu64 := Tryd.underlying64; have HR0 := sd_ hr0; have HC0 := sd_ hc0; clear hr0 hc0; have HB := sd_ (Below.refl w.heap.size w); have H : (slices_Index_2_int_2_int.l0 k l0 (l0.length : Int) 0 a1_0 a1_1) = some r := h; clear h; have H' := sd_ H; clear H; go_enter Tryd.func59, Tryd.ntmps59; go_wp2_with (first | ((with_reducible refine gate_dst (N := 3) rfl ?_); refine bx_ (N := 3) (cs := #[.int .i64 a1_0, .int .i64 a1_1]) (t := 64) ?_; intro gb431 hg w3 hbox hb; have BK431 := sd_ (hbox); have GW431 := sd_ (gs_ hg (bw0_ HB.out)); have GE431 := sd_ (gs_ hg (bw0_ HB.out)); replace HB := sd_ (below_step (bw0_ HB.out) hb); clear hb hbox hg))
 repeat (go_quiet (first | ((with_reducible refine gate_dst (N := 3) rfl ?_); refine bx_ (N := 3) (cs := #[.int .i64 a1_0, .int .i64 a1_1]) (t := 64) ?_; intro gb431 hg w3 hbox hb; have BK431 := sd_ (hbox); have GW431 := sd_ (gs_ hg (bw0_ HB.out)); have GE431 := sd_ (gs_ hg (bw0_ HB.out)); replace HB := sd_ (below_step (bw0_ HB.out) hb); clear hb hbox hg)); try go_wp2_with (first | ((with_reducible refine gate_dst (N := 3) rfl ?_); refine bx_ (N := 3) (cs := #[.int .i64 a1_0, .int .i64 a1_1]) (t := 64) ?_; intro gb431 hg w3 hbox hb; have BK431 := sd_ (hbox); have GW431 := sd_ (gs_ hg (bw0_ HB.out)); have GE431 := sd_ (gs_ hg (bw0_ HB.out)); replace HB := sd_ (below_step (bw0_ HB.out) hb); clear hb hbox hg)))
 go_loopg [8] k (fun kq v8 w' => ∃ (x8_1 : Int), v8 = .int .i64 x8_1 ∧ Aside0 (slices_Index_2_int_2_int.l0 kq l0 (l0.length : Int) x8_1 a1_0 a1_1 = some r) ∧ Aside0 (kq ≤ k) ∧ Aside0 (w'.heap[gb431]? = some (.cells #[.int .i64 a1_0, .int .i64 a1_1] 64 (0, 0))) ∧ Aside0 (Below w.heap.size w w'))
 case atStart => exact ⟨(0), sm_, H', ⟨Nat.le_refl _⟩, ⟨bz_ BK431.out⟩, ⟨bw1_ HB.out GE431.out⟩⟩
 case round =>
  clear H'; (try clear p2); obtain ⟨x8_1, rfl, HA, HK1, BK431, HB⟩ := hrel
  cases gk with
  | zero => exact absurd HA.out (by simp [slices_Index_2_int_2_int.l0])
  | succ k1 =>
   have H := HA.out; clear HA; simp only [slices_Index_2_int_2_int.l0] at H; revert H; refine ic_ (fun c4b0 H => ?_) (fun c4b0 H => ?_)
   ·revert H; refine ih_ fun c5b0 H => ?_
    revert H; refine ih_ fun c6b0 H => ?_
    by_cases c7 : (a1_0 == ((rd_T64 l0 x8_1).f0) && (a1_1 == ((rd_T64 l0 x8_1).f1))) = true
    ·rw [if_pos c7] at H; have c7b0 : (a1_0 == ((rd_T64 l0 x8_1).f0) && (a1_1 == ((rd_T64 l0 x8_1).f1))) = true := c7; (try (have c7b1 : decide (a1_0 = ((rd_T64 l0 x8_1).f0) && (a1_1 == ((rd_T64 l0 x8_1).f1))) = true := by simpa using c7)); (try (have c7b2 : (a1_0 == ((rd_T64 l0 x8_1).f0) && (a1_1 == ((rd_T64 l0 x8_1).f1))) = true := by simpa using c7)); clear c7; obtain rfl := Option.some.inj H; obtain ⟨z8_0, z8_1, f8_0, f8_1⟩ := bf2_ BK431.out; have p432 : 0 ≤ (x8_1 : Int) := dt_; have q432 : x8_1 < (l0.length : Int) := dt_; obtain ⟨ad432, e432, hx432_0, hx432_1⟩ := at_T64 HR0.out x8_1 p432 q432
     cases e432
     replace hx432_0 := (HB.out.cell (World.block_lt_of_cell? w _ hx432_0)).trans hx432_0; replace hx432_1 := (HB.out.cell (World.block_lt_of_cell? w _ hx432_1)).trans hx432_1; replace p432 := eq_true p432; replace q432 := eq_true q432; go_wp2
     repeat (go_quiet (fail); try go_wp2)
     go_ret; exact ⟨an_, bw1_ HB.out GE431.out⟩
    rw [if_neg c7] at H
    have c7b0 : (a1_0 == ((rd_T64 l0 x8_1).f0) && (a1_1 == ((rd_T64 l0 x8_1).f1))) = false := by simpa using c7
    (try (have c7b1 : decide (a1_0 = ((rd_T64 l0 x8_1).f0) && (a1_1 == ((rd_T64 l0 x8_1).f1))) = false := by simpa using c7)); (try (have c7b2 : (a1_0 == ((rd_T64 l0 x8_1).f0) && (a1_1 == ((rd_T64 l0 x8_1).f1))) = false := by simpa using c7)); (try (have c7b3 : ¬ (a1_0 = ((rd_T64 l0 x8_1).f0) && (a1_1 == ((rd_T64 l0 x8_1).f1))) := by simpa using c7)); clear c7; have H' := sd_ H; clear H; obtain ⟨z9_0, z9_1, f9_0, f9_1⟩ := bf2_ BK431.out; have p432 : 0 ≤ (x8_1 : Int) := dt_; have q432 : x8_1 < (l0.length : Int) := dt_; obtain ⟨ad432, e432, hx432_0, hx432_1⟩ := at_T64 HR0.out x8_1 p432 q432
    cases e432
    replace hx432_0 := (HB.out.cell (World.block_lt_of_cell? w _ hx432_0)).trans hx432_0; replace hx432_1 := (HB.out.cell (World.block_lt_of_cell? w _ hx432_1)).trans hx432_1; replace p432 := eq_true p432; replace q432 := eq_true q432; go_wp2
    repeat (go_quiet (fail); try go_wp2)
    go_roundg k1
    case measure => have := HK1.out; omega
    case rel => exact ⟨(wrap64 (x8_1 + 1)), sm_, H', ⟨by have := HK1.out; omega⟩, ⟨bz_ BK431.out⟩, ⟨bw1_ HB.out GE431.out⟩⟩
   obtain rfl := Option.some.inj H; go_wp2
   repeat (go_quiet (fail); try go_wp2)
   go_ret; exact ⟨an_, bw1_ HB.out GE431.out⟩

end Go.Proofs.YtmcepfimcedocaaDoor.P
end

section
/-! shorter words -/
namespace Go.Proofs.YtmcepfimcedocaaDoor.P
open Go.RowKit Go.Proofs.YtmcepfimcedocaaDoorW.PrintWords Go.Proofs.YtmcepfimcedocaaDoorW.PrintLast Go.Proofs.YtmcepfimcedocaaDoorW.PrintMore
attribute [local go_sem] max2_int min2_int max_two min_two max_three min_three max_four min_four   -- for this text's walks alone
set_option linter.unusedVariables false
set_option linter.unusedSimpArgs false

/-! ### impl_ProductSystem_1: function 58 -/
def impl_ProductSystem_1.f (k : Nat) (a0 : Int) (a1 : Int) (l2_0 : List (S64)) : Option (Int) := (slices_Index_2_int_2_int.f k l2_0 a0 a1).bind fun t433 => (some t433)
set_option maxHeartbeats 8000000 in
set_option maxRecDepth 100000 in
theorem impl_ProductSystem_1.calls (k : Nat) (a0 : Int) (a1 : Int) (g2 : Nat) (A2_0 : Option Addr) (c2_0 : Nat) (l2_0 : List (S64)) (r : Int) (w : World) (hr2_0 : Kd.C k64 w A2_0 l2_0.length l2_0) (hc2_0 : l2_0.length ≤ c2_0) (hb2 : w.heap[g2]? = some (.cells #[.slice A2_0 l2_0.length c2_0] 61 (0, 0))) (h : impl_ProductSystem_1.f k a0 a1 l2_0 = some r) :
  Calls Tryd.prog 58 #[.int .i64 a0, .int .i64 a1, .pointer (some ⟨g2, 0, none⟩)] w fun e w' => e = .returned (.int .i64 r) ∧ Below w.heap.size w w' := by
 have hu64 := Tryd.underlying64; have HR2_0 := sd_ hr2_0; have HC2_0 := sd_ hc2_0; clear hr2_0 hc2_0; have BK2 := sd_ hb2; clear hb2; have HB := sd_ (Below.refl w.heap.size w); have H : ((slices_Index_2_int_2_int.f k l2_0 a0 a1).bind fun t433 => (some t433)) = some r := h; clear h
 revert H; refine ob_ fun t433 A4 H => ?_
 obtain rfl := Option.some.inj H; have z5_0 : w.cell? ⟨g2, 0, none⟩ = some (.slice A2_0 l2_0.length c2_0) := bk_ BK2 0; have f5_0 := blk_frozen BK2.out 0; go_enter Tryd.func58, Tryd.ntmps58; go_wp2_with (first | ((with_reducible refine gate_callee (f := 59) rfl ?_); refine goesL_ (some 10) rfl rfl Tryd.func59 (by kernel_rfl) rfl #[.slice A2_0 l2_0.length c2_0, .agg #[.int .i64 a0, .int .i64 a1]] rfl la_ ?_; (with_reducible refine (slices_Index_2_int_2_int.calls k _ _ l2_0 a0 a1 t433 _ (kp_ HR2_0.out) HC2_0.out A4.out).mono ?_); rintro e w6 ⟨rfl, hb⟩; refine ⟨_, rfl, ?_⟩; replace BK2 := sd_ (bb_ BK2.out hb); replace HB := sd_ (below_step (bw0_ HB.out) hb); (try clear hb))); go_ret; exact ⟨an_, bw0_ HB.out⟩

/-! ### impl_System_plus: function 61 -/
def impl_System_plus.f (a0_0 : Int) (l0_1 : List Int) (l0_2 : List Int) (l0_3 : List Bool) (a1 : Int) (a2 : Int) : Option (Int) := if 0 ≤ (wrap64 ((wrap64 (a1 * a0_0)) + a2)) then (if (wrap64 ((wrap64 (a1 * a0_0)) + a2)) < (l0_1.length : Int) then (some (rd l0_1 (wrap64 ((wrap64 (a1 * a0_0)) + a2)))) else (none)) else (none)
set_option maxHeartbeats 8000000 in
set_option maxRecDepth 100000 in
theorem impl_System_plus.calls (a0_0 : Int) (A0_1 : Option Addr) (c0_1 : Nat) (l0_1 : List Int) (A0_2 : Option Addr) (c0_2 : Nat) (l0_2 : List Int) (A0_3 : Option Addr) (c0_3 : Nat) (l0_3 : List Bool) (a1 : Int) (a2 : Int) (r : Int) (w : World) (hr0_1 : Kd.C (Kd.int .i64) w A0_1 l0_1.length l0_1) (hc0_1 : l0_1.length ≤ c0_1) (hr0_2 : Kd.C (Kd.int .i64) w A0_2 l0_2.length l0_2) (hc0_2 : l0_2.length ≤ c0_2) (hr0_3 : Kd.C Kd.bool w A0_3 l0_3.length l0_3) (hc0_3 : l0_3.length ≤ c0_3) (h : impl_System_plus.f a0_0 l0_1 l0_2 l0_3 a1 a2 = some r) :
  Calls Tryd.prog 61 #[.agg #[.int .i64 a0_0, .slice A0_1 l0_1.length c0_1, .slice A0_2 l0_2.length c0_2, .slice A0_3 l0_3.length c0_3], .int .i64 a1, .int .i64 a2] w fun e w' => e = .returned (.int .i64 r) ∧ Below w.heap.size w w' := by
 have hu28 := Tryd.underlying28; have HR0_1 := sd_ hr0_1; have HC0_1 := sd_ hc0_1; clear hr0_1 hc0_1; have HR0_2 := sd_ hr0_2; have HC0_2 := sd_ hc0_2; clear hr0_2 hc0_2; have HR0_3 := sd_ hr0_3; have HC0_3 := sd_ hc0_3; clear hr0_3 hc0_3; have HB := sd_ (Below.refl w.heap.size w); have H : (if 0 ≤ (wrap64 ((wrap64 (a1 * a0_0)) + a2)) then (if (wrap64 ((wrap64 (a1 * a0_0)) + a2)) < (l0_1.length : Int) then (some (rd l0_1 (wrap64 ((wrap64 (a1 * a0_0)) + a2)))) else (none)) else (none)) = some r := h; clear h; obtain ⟨ji4, hji4⟩ : ∃ j_ : Int, (wrap64 ((wrap64 (a1 * a0_0)) + a2)) = j_ := ⟨_, rfl⟩
 replace H : (if 0 ≤ (ji4) then (if (ji4) < (l0_1.length : Int) then (some (rd l0_1 (ji4))) else (none)) else (none)) = some r := by first | (rw [hji4] at H; exact H) | (simp only [hji4] at H ⊢; exact H)
 have hji4w : (IntKind.i64.wrap ((wrap64 (a1 * a0_0)) + a2)) = ji4 := (i64_w _).trans hji4
 revert H; refine ih_ fun c5b0 H => ?_
 revert H; refine ih_ fun c6b0 H => ?_
 obtain rfl := Option.some.inj H; go_enter Tryd.func61, Tryd.ntmps61; go_wp2_with (first | ((with_reducible refine gate_dst (N := 3) rfl ?_); refine bx_ (N := 3) (cs := #[.int .i64 a0_0, .slice A0_1 l0_1.length c0_1, .slice A0_2 l0_2.length c0_2, .slice A0_3 l0_3.length c0_3]) (t := 28) ?_; intro gb350 hg w7 hbox hb; have BK350 := sd_ (hbox); have GW350 := sd_ (gs_ hg (bw0_ HB.out)); have GE350 := sd_ (gs_ hg (bw0_ HB.out)); replace HB := sd_ (below_step (bw0_ HB.out) hb); clear hb hbox hg; obtain ⟨z8_0, z8_1, z8_2, z8_3, f8_0, f8_1, f8_2, f8_3⟩ := bf4_ BK350.out; obtain ⟨ad351, e351, hx351_0, p351, q351⟩ := ai_ HR0_1.out HB.out (ji4); cases e351)); go_ret; exact ⟨by first | rfl | (simp [errW_none, errW_some] <;> rfl) | (simp only [← hji4]; first | rfl | (simp [errW_none, errW_some] <;> rfl)) | (simp [*, errW_none, errW_some] <;> rfl), bw1_ HB.out GE350.out⟩

/-! ### impl_System_times: function 63 -/
def impl_System_times.f (a0_0 : Int) (l0_1 : List Int) (l0_2 : List Int) (l0_3 : List Bool) (a1 : Int) (a2 : Int) : Option (Int) := if 0 ≤ (wrap64 ((wrap64 (a1 * a0_0)) + a2)) then (if (wrap64 ((wrap64 (a1 * a0_0)) + a2)) < (l0_2.length : Int) then (some (rd l0_2 (wrap64 ((wrap64 (a1 * a0_0)) + a2)))) else (none)) else (none)
set_option maxHeartbeats 8000000 in
set_option maxRecDepth 100000 in
theorem impl_System_times.calls (a0_0 : Int) (A0_1 : Option Addr) (c0_1 : Nat) (l0_1 : List Int) (A0_2 : Option Addr) (c0_2 : Nat) (l0_2 : List Int) (A0_3 : Option Addr) (c0_3 : Nat) (l0_3 : List Bool) (a1 : Int) (a2 : Int) (r : Int) (w : World) (hr0_1 : Kd.C (Kd.int .i64) w A0_1 l0_1.length l0_1) (hc0_1 : l0_1.length ≤ c0_1) (hr0_2 : Kd.C (Kd.int .i64) w A0_2 l0_2.length l0_2) (hc0_2 : l0_2.length ≤ c0_2) (hr0_3 : Kd.C Kd.bool w A0_3 l0_3.length l0_3) (hc0_3 : l0_3.length ≤ c0_3) (h : impl_System_times.f a0_0 l0_1 l0_2 l0_3 a1 a2 = some r) :
  Calls Tryd.prog 63 #[.agg #[.int .i64 a0_0, .slice A0_1 l0_1.length c0_1, .slice A0_2 l0_2.length c0_2, .slice A0_3 l0_3.length c0_3], .int .i64 a1, .int .i64 a2] w fun e w' => e = .returned (.int .i64 r) ∧ Below w.heap.size w w' := by
 have hu28 := Tryd.underlying28; have HR0_1 := sd_ hr0_1; have HC0_1 := sd_ hc0_1; clear hr0_1 hc0_1; have HR0_2 := sd_ hr0_2; have HC0_2 := sd_ hc0_2; clear hr0_2 hc0_2; have HR0_3 := sd_ hr0_3; have HC0_3 := sd_ hc0_3; clear hr0_3 hc0_3; have HB := sd_ (Below.refl w.heap.size w); have H : (if 0 ≤ (wrap64 ((wrap64 (a1 * a0_0)) + a2)) then (if (wrap64 ((wrap64 (a1 * a0_0)) + a2)) < (l0_2.length : Int) then (some (rd l0_2 (wrap64 ((wrap64 (a1 * a0_0)) + a2)))) else (none)) else (none)) = some r := h; clear h; obtain ⟨ji4, hji4⟩ : ∃ j_ : Int, (wrap64 ((wrap64 (a1 * a0_0)) + a2)) = j_ := ⟨_, rfl⟩
 replace H : (if 0 ≤ (ji4) then (if (ji4) < (l0_2.length : Int) then (some (rd l0_2 (ji4))) else (none)) else (none)) = some r := by first | (rw [hji4] at H; exact H) | (simp only [hji4] at H ⊢; exact H)
 have hji4w : (IntKind.i64.wrap ((wrap64 (a1 * a0_0)) + a2)) = ji4 := (i64_w _).trans hji4
 revert H; refine ih_ fun c5b0 H => ?_
 revert H; refine ih_ fun c6b0 H => ?_
 obtain rfl := Option.some.inj H; go_enter Tryd.func63, Tryd.ntmps63; go_wp2_with (first | ((with_reducible refine gate_dst (N := 3) rfl ?_); refine bx_ (N := 3) (cs := #[.int .i64 a0_0, .slice A0_1 l0_1.length c0_1, .slice A0_2 l0_2.length c0_2, .slice A0_3 l0_3.length c0_3]) (t := 28) ?_; intro gb352 hg w7 hbox hb; have BK352 := sd_ (hbox); have GW352 := sd_ (gs_ hg (bw0_ HB.out)); have GE352 := sd_ (gs_ hg (bw0_ HB.out)); replace HB := sd_ (below_step (bw0_ HB.out) hb); clear hb hbox hg; obtain ⟨z8_0, z8_1, z8_2, z8_3, f8_0, f8_1, f8_2, f8_3⟩ := bf4_ BK352.out; obtain ⟨ad353, e353, hx353_0, p353, q353⟩ := ai_ HR0_2.out HB.out (ji4); cases e353)); go_ret; exact ⟨by first | rfl | (simp [errW_none, errW_some] <;> rfl) | (simp only [← hji4]; first | rfl | (simp [errW_none, errW_some] <;> rfl)) | (simp [*, errW_none, errW_some] <;> rfl), bw1_ HB.out GE352.out⟩

end Go.Proofs.YtmcepfimcedocaaDoor.P
end
