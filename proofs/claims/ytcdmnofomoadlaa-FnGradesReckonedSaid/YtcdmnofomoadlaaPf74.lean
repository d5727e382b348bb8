-- Printed by this session's own program (wip/tools/mkprint.py) out of the translation. Not trusted: Lean checks it.
import Derived.Test.YtcdmnofomoadlaaM1
import Derived.Test.YtcdmnofomoadlaaPf123
import Derived.Laws.EntriesVeiled
/-! short words -/
namespace Go.Proofs.Ytcdmnofomoadlaa.P
open Go.RowKit Go.Proofs.YtcdmnofomoadlaaW.PrintWords Go.Proofs.YtcdmnofomoadlaaW.PrintLast Go.Proofs.YtcdmnofomoadlaaW.PrintMore
attribute [local go_sem] max2_int min2_int max_two min_two max_three min_three max_four min_four   -- for this text's walks alone
set_option linter.unusedVariables false
set_option linter.unusedSimpArgs false

/-! ### slices_ContainsFunc_int_int: function 74 -/
def slices_ContainsFunc_int_int.f (k : Nat) (l0 : List Int) (x1 : (Int → Option (Bool))) : Option (Bool) := (slices_IndexFunc_int_int.f k l0 x1).bind fun t774 => (some (decide (t774 ≥ 0)))
set_option maxHeartbeats 8000000 in
set_option maxRecDepth 100000 in
theorem slices_ContainsFunc_int_int.calls (k : Nat) (A0 : Option Addr) (c0 : Nat) (l0 : List Int) (x1 : (Int → Option (Bool))) (K1_ : Nat) (F1_ C1_ : Array Value) (r : Bool) (w : World) (hr0 : Kd.C (Kd.int .i64) w A0 l0.length l0) (hc0 : l0.length ≤ c0) (hG1 : OFn K1_) (hF1 : OC73 w x1 K1_ F1_ C1_) (h : slices_ContainsFunc_int_int.f k l0 x1 = some r) :
  Calls Try.prog 74 #[.slice A0 l0.length c0, .func (.func K1_) F1_ C1_] w fun e w' => e = .returned (.bool r) ∧ Below w.heap.size w w' := by
 have HR0 := sd_ hr0
 have HC0 := sd_ hc0
 clear hr0 hc0
 have HG1 := sd_ hG1
 have HF1 := sd_ hF1
 clear hG1 hF1
 have HB := sd_ (Below.refl w.heap.size w)
 have H : ((slices_IndexFunc_int_int.f k l0 x1).bind fun t774 => (some (decide (t774 ≥ 0)))) = some r := h
 clear h
 replace H := Option.bind_eq_some_iff.mp H
 obtain ⟨t774, A30, H⟩ := H
 try dsimp only at H
 have A3 := sd_ A30
 clear A30
 obtain rfl := Option.some.inj H
 go_enter Try.func74, Try.ntmps74
 go_wp2_with (first | ((with_reducible refine gate_callee (f := 123) rfl ?_); refine goesL_ (some 7) rfl rfl Try.func123 (by kernel_rfl) rfl #[.slice A0 l0.length c0, .func (.func K1_) F1_ C1_] rfl la_ ?_; (with_reducible refine (slices_IndexFunc_int_int.calls k _ _ l0 x1 K1_ F1_ C1_ t774 _ ?side1 ?side2 ?side3 ?side4 A3.out).mono ?_); (case side1 => exact kp_ HR0.out); (case side2 => exact HC0.out); (case side3 => exact HG1.out); (case side4 => exact OC73.step HF1.out (bw0_ HB.out)); rintro e w4 ⟨rfl, hb⟩; refine ⟨_, rfl, ?_⟩; have n0_ := sd_ (below_step (bw0_ HB.out) hb); clear HB; have HB := n0_; clear n0_; (try clear hb)))
 go_ret
 exact ⟨an_, bw0_ HB.out⟩

end Go.Proofs.Ytcdmnofomoadlaa.P
