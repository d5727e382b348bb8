-- Printed by this session's own program (wip/tools/mkprint.py) out of the translation. Not trusted: Lean checks it.
import Derived.Test.YtnokgkhkmnldeaaP0
import Derived.Test.YtnokgkhkmnldeaaPf82
import Derived.Test.YtnokgkhkmnldeaaPf84
/-! short words -/
namespace Go.Proofs.Ytnokgkhkmnldeaa.P
open Go.RowKit Go.Proofs.YtnokgkhkmnldeaaW.PrintWords Go.Proofs.YtnokgkhkmnldeaaW.PrintLast Go.Proofs.YtnokgkhkmnldeaaW.PrintMore
attribute [local go_sem] max2_int min2_int max_two min_two max_three min_three max_four min_four   -- for this text's walks alone
set_option linter.unusedVariables false
set_option linter.unusedSimpArgs false

/-! ### spec_l2Part: function 48 -/
def spec_l2Part.f (k : Nat) (l0 : List Int) (a1 : Int) : Option (List Int) := (spec_l2End.f k l0 1).bind fun t114 => (if a1 = 0 then (if 1 ≤ t114 then (if t114 ≤ (l0.length : Int) then ((spec_l1Copy.f ((l0.take (t114 : Int).toNat).drop 1)).bind fun t116 => (some t116)) else (none)) else (none)) else (if 0 ≤ t114 then (if t114 ≤ (l0.length : Int) then ((spec_l1Copy.f (l0.drop (t114 : Int).toNat)).bind fun t120 => (some t120)) else (none)) else (none)))
set_option maxHeartbeats 8000000 in
set_option maxRecDepth 100000 in
theorem spec_l2Part.calls (k : Nat) (A0 : Option Addr) (c0 : Nat) (l0 : List Int) (a1 : Int) (r : List Int) (w : World) (hr0 : Kd.C (Kd.int .i64) w A0 l0.length l0) (hc0 : l0.length ≤ c0) (h : spec_l2Part.f k l0 a1 = some r) :
  Calls Try.prog 48 #[.slice A0 l0.length c0, .int .i64 a1] w fun e w' => ∃ v0_ : Value, e = .returned (v0_) ∧ Kd.R (Kd.int .i64) 3 w' w.heap.size (fun _ => True) v0_ r ∧ Below w.heap.size w w' := by
 have HR0 := sd_ hr0
 have HC0 := sd_ hc0
 clear hr0 hc0
 have HB := sd_ (Below.refl w.heap.size w)
 have H : ((spec_l2End.f k l0 1).bind fun t114 => (if a1 = 0 then (if 1 ≤ t114 then (if t114 ≤ (l0.length : Int) then ((spec_l1Copy.f ((l0.take (t114 : Int).toNat).drop 1)).bind fun t116 => (some t116)) else (none)) else (none)) else (if 0 ≤ t114 then (if t114 ≤ (l0.length : Int) then ((spec_l1Copy.f (l0.drop (t114 : Int).toNat)).bind fun t120 => (some t120)) else (none)) else (none)))) = some r := h
 clear h
 replace H := Option.bind_eq_some_iff.mp H
 obtain ⟨t114, A30, H⟩ := H
 try dsimp only at H
 have A3 := sd_ A30
 clear A30
 by_cases c4 : a1 = 0
 ·rw [if_pos c4] at H
  have c4b0 : (a1 == 0) = true := beq_iff_eq.mpr c4
  have c4b1 : (a1 != 0) = false := bne_eq_false_iff_eq.mpr c4
  clear c4
  by_cases c5 : 1 ≤ t114
  ·rw [if_pos c5] at H
   have c5b0 := eq_true c5
   have c5b1 : decide (1 ≤ t114) = true := decide_eq_true c5
   clear c5
   by_cases c6 : t114 ≤ (l0.length : Int)
   ·rw [if_pos c6] at H
    have c6b0 := eq_true c6
    have c6b1 : decide (t114 ≤ (l0.length : Int)) = true := decide_eq_true c6
    clear c6
    replace H := Option.bind_eq_some_iff.mp H
    obtain ⟨t116, A70, H⟩ := H
    try dsimp only at H
    have A7 := sd_ A70
    clear A70
    obtain rfl := Option.some.inj H
    go_enter Try.func48, Try.ntmps48
    go_wp2_with (first | ((with_reducible refine gate_callee (f := 82) rfl ?_); refine goesL_ (some 7) rfl rfl Try.func82 (by kernel_rfl) rfl #[.slice A0 l0.length c0, .int .i64 1] rfl la_ ?_; (with_reducible refine (spec_l2End.calls k _ _ l0 1 t114 _ (kp_ HR0.out) HC0.out A3.out).mono ?_); rintro e w' ⟨rfl, ⟨nd, rfl⟩⟩; refine ⟨_, rfl, ?_⟩; obtain ⟨i08, hi08, _, hsz8, _⟩ := info_parts info3; obtain ⟨A8, hcut8, hA8, hC8⟩ := print_mid_of (P := Try.prog) (Value.int .i64) 0 22 3 .i64 .i64 Try.underlying22 hi08 hsz8 A0 c0 l0 1 t114 (by omega) (by first | omega | exact dt_) (dt_) HC0.out; have HR115 := sd_ (Kd.C_of_reads (h1 := fun _ => rfl) (hA8 _ (Kd.reads_of_C HR0.out))); have HC115 := sd_ hC8; clear hA8 hC8 hi08 hsz8) | ((with_reducible refine gate_callee (f := 84) rfl ?_); refine goesL_ (some 13) rfl rfl Try.func84 (by kernel_rfl) rfl #[.slice A8 ((l0.take (t114 : Int).toNat).drop 1).length (c0 - 1)] rfl (by (try simp only [List.map_toArray, List.map_cons, List.map_nil]); first | done | (rw [show ((l0.take (t114 : Int).toNat).drop 1).length = (t114.toNat - 1) from (by rw [List.length_drop, List.length_take]; have h_ : (t114 : Int) ≤ (l0.length : Int) := dt_; omega)] <;> rfl) | rfl | (simp only [List.length_drop, List.length_take]; rfl)) ?_; (with_reducible refine (spec_l1Copy.calls _ _ ((l0.take (t114 : Int).toNat).drop 1) t116 _ ?side1 ?side2 A7.out).mono ?_); (case side1 => exact kp_ HR115.out); (case side2 => exact HC115.out); rintro e w9 ⟨v117, rfl, ho0, hb⟩; refine ⟨_, rfl, ?_⟩; have HO118 := sd_ (Kd.R_lower ho0 (below_size (bw0_ HB.out))); replace HB := sd_ (below_step (bw0_ HB.out) hb); (try clear ho0)))
    go_ret
    exact ⟨_, an_, by (with_reducible repeat (first | apply Kd.R_alloc | apply Kd.R_drewN | apply Kd.R_drew)); exact HO118.out, bw0_ HB.out⟩
   rw [if_neg c6] at H
   exact absurd H (by simp)
  rw [if_neg c5] at H
  exact absurd H (by simp)
 rw [if_neg c4] at H
 have c4b0 : (a1 == 0) = false := beq_eq_false_iff_ne.mpr c4
 have c4b1 : (a1 != 0) = true := bne_iff_ne.mpr c4
 by_cases c10 : 0 ≤ t114
 ·rw [if_pos c10] at H
  have c10b0 := eq_true c10
  have c10b1 : decide (0 ≤ t114) = true := decide_eq_true c10
  clear c10
  by_cases c11 : t114 ≤ (l0.length : Int)
  ·rw [if_pos c11] at H
   have c11b0 := eq_true c11
   have c11b1 : decide (t114 ≤ (l0.length : Int)) = true := decide_eq_true c11
   clear c11
   replace H := Option.bind_eq_some_iff.mp H
   obtain ⟨t120, A120, H⟩ := H
   try dsimp only at H
   have A12 := sd_ A120
   clear A120
   obtain rfl := Option.some.inj H
   go_enter Try.func48, Try.ntmps48
   go_wp2_with (first | ((with_reducible refine gate_callee (f := 82) rfl ?_); refine goesL_ (some 7) rfl rfl Try.func82 (by kernel_rfl) rfl #[.slice A0 l0.length c0, .int .i64 1] rfl la_ ?_; (with_reducible refine (spec_l2End.calls k _ _ l0 1 t114 _ (kp_ HR0.out) HC0.out A3.out).mono ?_); rintro e w' ⟨rfl, ⟨nd, rfl⟩⟩; refine ⟨_, rfl, ?_⟩; obtain ⟨i013, hi013, _, hsz13, _⟩ := info_parts info3; obtain ⟨A13, hcut13, hA13, hC13⟩ := print_drop_of (P := Try.prog) (Value.int .i64) 0 22 3 .i64 Try.underlying22 hi013 hsz13 A0 c0 l0 t114 (dt_) (dt_) HC0.out; have HR119 := sd_ (Kd.C_of_reads (h1 := fun _ => rfl) (hA13 _ (Kd.reads_of_C HR0.out))); have HC119 := sd_ hC13; clear hA13 hC13 hi013 hsz13) | ((with_reducible refine gate_callee (f := 84) rfl ?_); refine goesL_ (some 17) rfl rfl Try.func84 (by kernel_rfl) rfl #[.slice A13 (l0.drop (t114 : Int).toNat).length (c0 - t114.toNat)] rfl (by (try simp only [List.map_toArray, List.map_cons, List.map_nil]); first | done | (rw [show (l0.drop (t114 : Int).toNat).length = (l0.length - t114.toNat) from List.length_drop] <;> rfl) | rfl | (simp only [List.length_drop, List.length_take]; rfl)) ?_; (with_reducible refine (spec_l1Copy.calls _ _ (l0.drop (t114 : Int).toNat) t120 _ ?side1 ?side2 A12.out).mono ?_); (case side1 => exact kp_ HR119.out); (case side2 => exact HC119.out); rintro e w14 ⟨v121, rfl, ho0, hb⟩; refine ⟨_, rfl, ?_⟩; have HO122 := sd_ (Kd.R_lower ho0 (below_size (bw0_ HB.out))); replace HB := sd_ (below_step (bw0_ HB.out) hb); (try clear ho0)))
   go_ret
   exact ⟨_, an_, by (with_reducible repeat (first | apply Kd.R_alloc | apply Kd.R_drewN | apply Kd.R_drew)); exact HO122.out, bw0_ HB.out⟩
  rw [if_neg c11] at H
  exact absurd H (by simp)
 rw [if_neg c10] at H
 exact absurd H (by simp)

end Go.Proofs.Ytnokgkhkmnldeaa.P
