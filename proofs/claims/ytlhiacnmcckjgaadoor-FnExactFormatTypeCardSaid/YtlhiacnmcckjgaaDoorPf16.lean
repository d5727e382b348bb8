-- Printed by this session's own program (wip/tools/mkprint.py) out of the translation. Not trusted: Lean checks it.
import Derived.Test.YtlhiacnmcckjgaaDoorP0
import Derived.Test.YtlhiacnmcckjgaaDoorPf31
/-! short words -/
namespace Go.Proofs.YtlhiacnmcckjgaaDoor.P
open Go.RowKit Go.Proofs.YtlhiacnmcckjgaaDoorW.PrintWords Go.Proofs.YtlhiacnmcckjgaaDoorW.PrintLast Go.Proofs.YtlhiacnmcckjgaaDoorW.PrintMore
attribute [local go_sem] max2_int min2_int max_two min_two max_three min_three max_four min_four   -- for this text's walks alone
set_option linter.unusedVariables false
set_option linter.unusedSimpArgs false

/-! ### spec_l2GradeText: function 16 -/
def spec_l2GradeText.f (k : Nat) (a0 : Int) : Option (ByteArray) := if a0 < 0 then (some (⟨#[63]⟩ : ByteArray)) else ((spec_l1Decimal.f k a0).bind fun t112 => (some t112))
set_option maxHeartbeats 8000000 in
set_option maxRecDepth 100000 in
theorem spec_l2GradeText.calls (k : Nat) (a0 : Int) (r : ByteArray) (w : World) (h : spec_l2GradeText.f k a0 = some r) :
  Calls Tryd.prog 16 #[.int .i64 a0] w fun e w' => e = .returned (.string r) ∧ Below w.heap.size w w' := by
 have HB := sd_ (Below.refl w.heap.size w)
 have H : (if a0 < 0 then (some (⟨#[63]⟩ : ByteArray)) else ((spec_l1Decimal.f k a0).bind fun t112 => (some t112))) = some r := h
 clear h
 by_cases c2 : a0 < 0
 ·rw [if_pos c2] at H
  have c2b0 : decide (a0 < 0) = true := decide_eq_true c2
  clear c2
  obtain rfl := Option.some.inj H
  go_enter Tryd.func16, Tryd.ntmps16
  go_wp2
  go_ret
  exact ⟨an_, bw0_ HB.out⟩
 rw [if_neg c2] at H
 have c2b0 : decide (a0 < 0) = false := decide_eq_false c2
 clear c2
 replace H := Option.bind_eq_some_iff.mp H
 obtain ⟨t112, A30, H⟩ := H
 try dsimp only at H
 have A3 := sd_ A30
 clear A30
 obtain rfl := Option.some.inj H
 go_enter Tryd.func16, Tryd.ntmps16
 go_wp2_with (first | ((with_reducible refine gate_callee (f := 31) rfl ?_); refine goesL_ (some 6) rfl rfl Tryd.func31 (by kernel_rfl) rfl #[.int .i64 a0] rfl la_ ?_; (with_reducible refine (spec_l1Decimal.calls k a0 t112 _ A3.out).mono ?_); rintro e w4 ⟨rfl, hb⟩; refine ⟨_, rfl, ?_⟩; have n0_ := sd_ (below_step (bw0_ HB.out) hb); clear HB; have HB := n0_; clear n0_; (try clear hb)))
 go_ret
 exact ⟨an_, bw0_ HB.out⟩

end Go.Proofs.YtlhiacnmcckjgaaDoor.P
