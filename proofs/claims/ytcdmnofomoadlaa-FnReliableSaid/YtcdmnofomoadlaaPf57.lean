-- Printed by this session's own program (wip/tools/mkprint.py) out of the translation. Not trusted: Lean checks it.
import Derived.Test.YtcdmnofomoadlaaM1
/-! short words -/
namespace Go.Proofs.Ytcdmnofomoadlaa.P
open Go.RowKit Go.Proofs.YtcdmnofomoadlaaW.PrintWords Go.Proofs.YtcdmnofomoadlaaW.PrintLast Go.Proofs.YtcdmnofomoadlaaW.PrintMore
attribute [local go_sem] max2_int min2_int max_two min_two max_three min_three max_four min_four   -- for this text's walks alone
set_option linter.unusedVariables false
set_option linter.unusedSimpArgs false

/-! ### impl_LevelSystem_1: function 57 -/
def impl_LevelSystem_1.f (a0 : Int) (a1_0 : Int) : Option (Int) := if a0 = 0 then (some 0) else (some (wrap64 ((wrap64 (a1_0 + 1)) - a0)))
set_option maxHeartbeats 8000000 in
set_option maxRecDepth 100000 in
theorem impl_LevelSystem_1.calls (a0 : Int) (g1 : Nat) (a1_0 : Int) (r : Int) (w : World) (hb1 : w.heap[g1]? = some (.cells #[.int .i64 a1_0] 3 (0, 0))) (h : impl_LevelSystem_1.f a0 a1_0 = some r) :
  Calls Try.prog 57 #[.int .i64 a0, .pointer (some ⟨g1, 0, none⟩)] w fun e w' => e = .returned (.int .i64 r) ∧ Drawn0 w w' := by
 have BK1 := sd_ hb1
 clear hb1
 have H : (if a0 = 0 then (some 0) else (some (wrap64 ((wrap64 (a1_0 + 1)) - a0)))) = some r := h
 clear h
 by_cases c3 : a0 = 0
 ·rw [if_pos c3] at H
  have c3b0 : (a0 == 0) = true := beq_iff_eq.mpr c3
  have c3b1 : (a0 != 0) = false := bne_eq_false_iff_eq.mpr c3
  clear c3
  obtain rfl := Option.some.inj H
  go_enter Try.func57, Try.ntmps57
  go_wp2
  go_ret
  exact ⟨by first | rfl | (simp; done) | (simp [*]; done), by repeat (first | exact Drawn0.refl _ | apply Drawn0.step)⟩
 rw [if_neg c3] at H
 have c3b0 : (a0 == 0) = false := beq_eq_false_iff_ne.mpr c3
 have c3b1 : (a0 != 0) = true := bne_iff_ne.mpr c3
 obtain rfl := Option.some.inj H
 have hcz4_0 : w.cell? ⟨g1, 0, none⟩ = some (.int .i64 a1_0) := (blk_cell BK1.out 0).trans rfl
 have hfz4_0 := blk_frozen BK1.out 0
 go_enter Try.func57, Try.ntmps57
 go_wp2
 go_ret
 exact ⟨by first | rfl | (simp; done) | (simp [*]; done), by repeat (first | exact Drawn0.refl _ | apply Drawn0.step)⟩

end Go.Proofs.Ytcdmnofomoadlaa.P
