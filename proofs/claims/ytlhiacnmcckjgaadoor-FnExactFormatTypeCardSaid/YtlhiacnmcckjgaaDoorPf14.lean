-- Printed by this session's own program (wip/tools/mkprint.py) out of the translation. Not trusted: Lean checks it.
import Derived.Test.YtlhiacnmcckjgaaDoorP0
import Derived.Test.YtlhiacnmcckjgaaDoorPf29
/-! short words -/
namespace Go.Proofs.YtlhiacnmcckjgaaDoor.P
open Go.RowKit Go.Proofs.YtlhiacnmcckjgaaDoorW.PrintWords Go.Proofs.YtlhiacnmcckjgaaDoorW.PrintLast Go.Proofs.YtlhiacnmcckjgaaDoorW.PrintMore
attribute [local go_sem] max2_int min2_int max_two min_two max_three min_three max_four min_four   -- for this text's walks alone
set_option linter.unusedVariables false
set_option linter.unusedSimpArgs false

/-! ### spec_l2Type: function 14 -/
def spec_l2Type.f (k : Nat) (l0 : List Int) : Option (Bool) := if (l0.length : Int) ≤ 40 then ((spec_l2End.f k l0 0).bind fun t107 => (if t107 = (l0.length : Int) then (some (decide ((l0.length : Int) > 0))) else (some false))) else (some false)
set_option maxHeartbeats 8000000 in
set_option maxRecDepth 100000 in
theorem spec_l2Type.calls (k : Nat) (A0 : Option Addr) (c0 : Nat) (l0 : List Int) (r : Bool) (w : World) (hr0 : Kd.C (Kd.int .i64) w A0 l0.length l0) (hc0 : l0.length ≤ c0) (h : spec_l2Type.f k l0 = some r) :
  Calls Tryd.prog 14 #[.slice A0 l0.length c0] w fun e w' => e = .returned (.bool r) ∧ Drawn0 w w' := by
 have HR0 := sd_ hr0
 have HC0 := sd_ hc0
 clear hr0 hc0
 have H : (if (l0.length : Int) ≤ 40 then ((spec_l2End.f k l0 0).bind fun t107 => (if t107 = (l0.length : Int) then (some (decide ((l0.length : Int) > 0))) else (some false))) else (some false)) = some r := h
 clear h
 by_cases c2 : (l0.length : Int) ≤ 40
 ·rw [if_pos c2] at H
  have c2b0 : decide ((l0.length : Int) ≤ 40) = true := decide_eq_true c2
  have c2b1 : decide (l0.length ≤ 40) = true := decide_eq_true (by omega)
  clear c2
  replace H := Option.bind_eq_some_iff.mp H
  obtain ⟨t107, A30, H⟩ := H
  try dsimp only at H
  have A3 := sd_ A30
  clear A30
  by_cases c4 : t107 = (l0.length : Int)
  ·rw [if_pos c4] at H
   have c4b0 : (t107 == (l0.length : Int)) = true := beq_iff_eq.mpr c4
   have c4b1 : (t107 != (l0.length : Int)) = false := bne_eq_false_iff_eq.mpr c4
   clear c4
   obtain rfl := Option.some.inj H
   go_enter Tryd.func14, Tryd.ntmps14
   go_wp2_with (first | (go_at_call 29; (with_reducible refine (spec_l2End.calls k _ _ l0 0 t107 _ (kp_ HR0.out) HC0.out A3.out).mono ?_); rintro e w' ⟨rfl, ⟨nd, rfl⟩⟩))
   go_ret
   exact ⟨by first | rfl | (simp; done) | (simp [*]; done), by repeat (first | exact Drawn0.refl _ | apply Drawn0.step)⟩
  rw [if_neg c4] at H
  have c4b0 : (t107 == (l0.length : Int)) = false := beq_eq_false_iff_ne.mpr c4
  have c4b1 : (t107 != (l0.length : Int)) = true := bne_iff_ne.mpr c4
  obtain rfl := Option.some.inj H
  go_enter Tryd.func14, Tryd.ntmps14
  go_wp2_with (first | (go_at_call 29; (with_reducible refine (spec_l2End.calls k _ _ l0 0 t107 _ (kp_ HR0.out) HC0.out A3.out).mono ?_); rintro e w' ⟨rfl, ⟨nd, rfl⟩⟩))
  go_ret
  exact ⟨by first | rfl | (simp; done) | (simp [*]; done), by repeat (first | exact Drawn0.refl _ | apply Drawn0.step)⟩
 rw [if_neg c2] at H
 have c2b0 : decide ((l0.length : Int) ≤ 40) = false := decide_eq_false c2
 have c2b1 : decide (l0.length ≤ 40) = false := decide_eq_false (by omega)
 clear c2
 obtain rfl := Option.some.inj H
 go_enter Tryd.func14, Tryd.ntmps14
 go_wp2
 go_ret
 exact ⟨by first | rfl | (simp; done) | (simp [*]; done), by repeat (first | exact Drawn0.refl _ | apply Drawn0.step)⟩

end Go.Proofs.YtlhiacnmcckjgaaDoor.P
