-- Printed by this session's own program (wip/tools/mkprint.py) out of the translation. Not trusted: Lean checks it.
import Derived.Test.YtlhiacnmcckjgaaDoorP0
import Derived.Test.YtlhiacnmcckjgaaDoorPf5
import Derived.Test.YtlhiacnmcckjgaaDoorPf6
import Derived.Test.YtlhiacnmcckjgaaDoorPf7
import Derived.Test.YtlhiacnmcckjgaaDoorPf8
/-! short words -/
namespace Go.Proofs.YtlhiacnmcckjgaaDoor.P
open Go.RowKit Go.Proofs.YtlhiacnmcckjgaaDoorW.PrintWords Go.Proofs.YtlhiacnmcckjgaaDoorW.PrintLast Go.Proofs.YtlhiacnmcckjgaaDoorW.PrintMore
attribute [local go_sem] max2_int min2_int max_two min_two max_three min_three max_four min_four   -- for this text's walks alone
set_option linter.unusedVariables false
set_option linter.unusedSimpArgs false

/-! ### laws_FnExactFormatType: function 3 -/
def laws_FnExactFormatType.f (k : Nat) (l0 : List Int) : Option (Bool) := if (l0.length : Int) > 1048576 then (some true) else ((laws_toIntS.f k l0).bind fun t164 => ((spec_FormatType.f k t164).bind fun t167 => ((laws_toIntS.f k l0).bind fun t168 => ((impl_FormatType.f k t168).bind fun t171 => (if t171.toList = t167.toList then ((laws_toIntS.f k l0).bind fun t172 => ((laws_eqIntS.f k t168 t172).bind fun t175 => (if t175 = true then (some true) else (some false)))) else (some false))))))
set_option maxHeartbeats 8000000 in
set_option maxRecDepth 100000 in
theorem laws_FnExactFormatType.calls (k : Nat) (A0 : Option Addr) (c0 : Nat) (l0 : List Int) (r : Bool) (w : World) (hr0 : Kd.C (Kd.int .i64) w A0 l0.length l0) (hc0 : l0.length ≤ c0) (h : laws_FnExactFormatType.f k l0 = some r) (hr_ : r = true) :
  Calls Tryd.prog 3 #[.slice A0 l0.length c0] w fun e w' => e = .returned (.bool r) ∧ Below w.heap.size w w' := by
 have HR0 := sd_ hr0
 have HC0 := sd_ hc0
 clear hr0 hc0
 have HB := sd_ (Below.refl w.heap.size w)
 have H : (if (l0.length : Int) > 1048576 then (some true) else ((laws_toIntS.f k l0).bind fun t164 => ((spec_FormatType.f k t164).bind fun t167 => ((laws_toIntS.f k l0).bind fun t168 => ((impl_FormatType.f k t168).bind fun t171 => (if t171.toList = t167.toList then ((laws_toIntS.f k l0).bind fun t172 => ((laws_eqIntS.f k t168 t172).bind fun t175 => (if t175 = true then (some true) else (some false)))) else (some false))))))) = some r := h
 clear h
 by_cases c2 : (l0.length : Int) > 1048576
 ·rw [if_pos c2] at H
  have c2b0 : decide (1048576 < (l0.length : Int)) = true := decide_eq_true c2
  have c2b1 : decide (1048576 < l0.length) = true := decide_eq_true (by omega)
  clear c2
  obtain rfl := Option.some.inj H
  go_enter Tryd.func3, Tryd.ntmps3
  go_wp2
  go_ret
  exact ⟨an_, bw0_ HB.out⟩
 rw [if_neg c2] at H
 have c2b0 : decide (1048576 < (l0.length : Int)) = false := decide_eq_false c2
 have c2b1 : decide (1048576 < l0.length) = false := decide_eq_false (by omega)
 clear c2
 replace H := Option.bind_eq_some_iff.mp H
 obtain ⟨t164, A30, H⟩ := H
 try dsimp only at H
 have A3 := sd_ A30
 clear A30
 replace H := Option.bind_eq_some_iff.mp H
 obtain ⟨t167, A40, H⟩ := H
 try dsimp only at H
 have A4 := sd_ A40
 clear A40
 replace H := Option.bind_eq_some_iff.mp H
 obtain ⟨t168, A50, H⟩ := H
 try dsimp only at H
 have A5 := sd_ A50
 clear A50
 replace H := Option.bind_eq_some_iff.mp H
 obtain ⟨t171, A60, H⟩ := H
 try dsimp only at H
 have A6 := sd_ A60
 clear A60
 have HP7 := sd_ H
 clear H
 go_enter Tryd.func3, Tryd.ntmps3
 go_upto_if 18 with (first | ((with_reducible refine gate_callee (f := 6) rfl ?_); refine goesL_ (some 10) rfl rfl Tryd.func6 (by kernel_rfl) rfl #[.slice A0 l0.length c0] rfl la_ ?_; (with_reducible refine (laws_toIntS.calls k _ _ l0 t164 _ (kp_ HR0.out) HC0.out A3.out).mono ?_); rintro e w8 ⟨v165, rfl, ho0, hb⟩; refine ⟨_, rfl, ?_⟩; have HO166 := sd_ (Kd.R_lower ho0 (below_size (bw0_ HB.out))); replace HB := sd_ (below_step (bw0_ HB.out) hb); (try clear hb); (try clear ho0); obtain ⟨Ao9, co9, eo9⟩ := Kd.R_slice HO166.out; subst eo9) | ((with_reducible refine gate_callee (f := 5) rfl ?_); refine goesL_ (some 11) rfl rfl Tryd.func5 (by kernel_rfl) rfl #[.slice Ao9 t164.length co9] rfl la_ ?_; (with_reducible refine (spec_FormatType.calls k _ _ t164 t167 _ ?side1 ?side2 A4.out).mono ?_); (case side1 => exact kp_ (Kd.R_reads' HO166.out).2.2); (case side2 => exact (Kd.R_reads' HO166.out).2.1); rintro e w10 ⟨rfl, hb⟩; refine ⟨_, rfl, ?_⟩; replace HO166 := sd_ (Kd.R_below (ro_ HO166.out) hb); replace HB := sd_ (below_step (bw0_ HB.out) hb); (try clear hb)) | ((with_reducible refine gate_callee (f := 6) rfl ?_); refine goesL_ (some 13) rfl rfl Tryd.func6 (by kernel_rfl) rfl #[.slice A0 l0.length c0] rfl la_ ?_; (with_reducible refine (laws_toIntS.calls k _ _ l0 t168 _ (kc_ HR0.out HB.out) HC0.out A5.out).mono ?_); rintro e w11 ⟨v169, rfl, ho0, hb⟩; refine ⟨_, rfl, ?_⟩; have HO170 := sd_ (Kd.R_lower (Kd.R_new' ho0 (Kd.R_lt (ro_ HO166.out))) (below_size (bw0_ HB.out))); replace HO166 := sd_ (Kd.R_elder' (ro_ HO166.out) (Kd.R_base ho0) hb); replace HB := sd_ (below_step (bw0_ HB.out) hb); (try clear hb); (try clear ho0); obtain ⟨Ao12, co12, eo12⟩ := Kd.R_slice HO170.out; subst eo12) | ((with_reducible refine gate_callee (f := 7) rfl ?_); refine goesL_ (some 15) rfl rfl Tryd.func7 (by kernel_rfl) rfl #[.slice Ao12 t168.length co12] rfl la_ ?_; (with_reducible refine (impl_FormatType.calls k _ _ t168 t171 _ ?side1 ?side2 A6.out).mono ?_); (case side1 => exact kp_ (Kd.R_reads' HO170.out).2.2); (case side2 => exact (Kd.R_reads' HO170.out).2.1); rintro e w13 ⟨rfl, hb⟩; refine ⟨_, rfl, ?_⟩; replace HO166 := sd_ (Kd.R_below (ro_ HO166.out) hb); replace HO170 := sd_ (Kd.R_below (ro_ HO170.out) hb); replace HB := sd_ (below_step (bw0_ HB.out) hb); (try clear hb)))
 have H := HP7.out
 clear HP7
 by_cases c14 : t171.toList = t167.toList
 ·rw [if_pos c14] at H
  have c14b0 : (t171.toList == t167.toList) = true := beq_iff_eq.mpr c14
  have c14b1 : (t171.toList != t167.toList) = false := bne_eq_false_iff_eq.mpr c14
  clear c14
  (first | rw [c14b0] | (simp only [i64_w, i32_w]; rw [c14b0]) | skip)
  replace H := Option.bind_eq_some_iff.mp H
  obtain ⟨t172, A150, H⟩ := H
  try dsimp only at H
  have A15 := sd_ A150
  clear A150
  replace H := Option.bind_eq_some_iff.mp H
  obtain ⟨t175, A160, H⟩ := H
  try dsimp only at H
  have A16 := sd_ A160
  clear A160
  have HP17 := sd_ H
  clear H
  go_upto_if 23 with (first | ((with_reducible refine gate_callee (f := 6) rfl ?_); refine goesL_ (some 21) rfl rfl Tryd.func6 (by kernel_rfl) rfl #[.slice A0 l0.length c0] rfl la_ ?_; (with_reducible refine (laws_toIntS.calls k _ _ l0 t172 _ (kc_ HR0.out HB.out) HC0.out A15.out).mono ?_); rintro e w18 ⟨v173, rfl, ho0, hb⟩; refine ⟨_, rfl, ?_⟩; have HO174 := sd_ (Kd.R_lower (Kd.R_new' (Kd.R_new' ho0 (Kd.R_lt (ro_ HO166.out))) (Kd.R_lt (ro_ HO170.out))) (below_size (bw0_ HB.out))); replace HO166 := sd_ (Kd.R_elder' (ro_ HO166.out) (Kd.R_base ho0) hb); replace HO170 := sd_ (Kd.R_elder' (ro_ HO170.out) (Kd.R_base ho0) hb); replace HB := sd_ (below_step (bw0_ HB.out) hb); (try clear hb); (try clear ho0); obtain ⟨Ao19, co19, eo19⟩ := Kd.R_slice HO174.out; subst eo19) | ((with_reducible refine gate_callee (f := 8) rfl ?_); refine goesL_ (some 22) rfl rfl Tryd.func8 (by kernel_rfl) rfl #[.slice Ao12 t168.length co12, .slice Ao19 t172.length co19] rfl la_ ?_; (with_reducible refine (laws_eqIntS.calls k _ _ t168 _ _ t172 t175 _ ?side1 ?side2 ?side3 ?side4 A16.out).mono ?_); (case side1 => exact kp_ (Kd.R_reads' HO170.out).2.2); (case side2 => exact (Kd.R_reads' HO170.out).2.1); (case side3 => exact kp_ (Kd.R_reads' HO174.out).2.2); (case side4 => exact (Kd.R_reads' HO174.out).2.1); rintro e w' ⟨rfl, ⟨nd, rfl⟩⟩; refine ⟨_, rfl, ?_⟩))
  have H := HP17.out
  clear HP17
  by_cases c20 : t175 = true
  ·subst c20
   have H1 : (some true) = some r := by rw [if_pos rfl] at H; exact H
   clear H
   have H := H1
   clear H1
   obtain rfl := Option.some.inj H
   go_wp2
   go_ret
   exact ⟨an_, bw0_ HB.out⟩
  replace c20 := Bool.eq_false_iff.mpr c20
  subst c20
  have H1 : (some false) = some r := by rw [if_neg (show ¬ (false = true) by decide)] at H; exact H
  clear H
  have H := H1
  clear H1
  obtain rfl := Option.some.inj H
  exact absurd hr_ (by decide)
 rw [if_neg c14] at H
 have c14b0 : (t171.toList == t167.toList) = false := beq_eq_false_iff_ne.mpr c14
 have c14b1 : (t171.toList != t167.toList) = true := bne_iff_ne.mpr c14
 (first | rw [c14b0] | (simp only [i64_w, i32_w]; rw [c14b0]) | skip)
 obtain rfl := Option.some.inj H
 exact absurd hr_ (by decide)

def laws_FnExactFormatType.Pure : Prop := ∀ (l0 : List Int), ((∀ z ∈ l0, (Lit.int .i64 z).wf = true) ∧ l0.length ≤ maxLen) → ∃ k, laws_FnExactFormatType.f k l0 = some true

end Go.Proofs.YtlhiacnmcckjgaaDoor.P
