-- Printed by this session's own program (wip/tools/mkprint.py) out of the translation. Not trusted: Lean checks it.
import Derived.Test.YtcdmnofomoadlaaM1
/-! short words -/
namespace Go.Proofs.Ytcdmnofomoadlaa.P
open Go.RowKit Go.Proofs.YtcdmnofomoadlaaW.PrintWords Go.Proofs.YtcdmnofomoadlaaW.PrintLast Go.Proofs.YtcdmnofomoadlaaW.PrintMore
attribute [local go_sem] max2_int min2_int max_two min_two max_three min_three max_four min_four   -- for this text's walks alone
set_option linter.unusedVariables false
set_option linter.unusedSimpArgs false

/-! ### impl_CountSystem_1: function 56 -/
def impl_CountSystem_1.f (a0 : Int) (a1 : Int) (a2_0 : Int) : Option (Bool) := if a0 = a1 then (some true) else (some (a1 == (wrap64 (a2_0 + 1))))
set_option maxHeartbeats 8000000 in
set_option maxRecDepth 100000 in
theorem impl_CountSystem_1.calls (a0 : Int) (a1 : Int) (g2 : Nat) (a2_0 : Int) (r : Bool) (w : World) (hb2 : w.heap[g2]? = some (.cells #[.int .i64 a2_0] 3 (0, 0))) (h : impl_CountSystem_1.f a0 a1 a2_0 = some r) :
  Calls Try.prog 56 #[.int .i64 a0, .int .i64 a1, .pointer (some ⟨g2, 0, none⟩)] w fun e w' => e = .returned (.bool r) ∧ Drawn0 w w' := by
 have BK2 := sd_ hb2
 clear hb2
 have H : (if a0 = a1 then (some true) else (some (a1 == (wrap64 (a2_0 + 1))))) = some r := h
 clear h
 by_cases c4 : a0 = a1
 ·rw [if_pos c4] at H
  have c4b0 : (a0 == a1) = true := beq_iff_eq.mpr c4
  have c4b1 : (a0 != a1) = false := bne_eq_false_iff_eq.mpr c4
  clear c4
  obtain rfl := Option.some.inj H
  go_enter Try.func56, Try.ntmps56
  go_wp2
  go_ret
  exact ⟨by first | rfl | (simp; done) | (simp [*]; done), by repeat (first | exact Drawn0.refl _ | apply Drawn0.step)⟩
 rw [if_neg c4] at H
 have c4b0 : (a0 == a1) = false := beq_eq_false_iff_ne.mpr c4
 have c4b1 : (a0 != a1) = true := bne_iff_ne.mpr c4
 obtain rfl := Option.some.inj H
 have hcz5_0 : w.cell? ⟨g2, 0, none⟩ = some (.int .i64 a2_0) := (blk_cell BK2.out 0).trans rfl
 have hfz5_0 := blk_frozen BK2.out 0
 go_enter Try.func56, Try.ntmps56
 go_wp2
 go_ret
 exact ⟨by first | rfl | (simp; done) | (simp [*]; done), by repeat (first | exact Drawn0.refl _ | apply Drawn0.step)⟩

end Go.Proofs.Ytcdmnofomoadlaa.P
