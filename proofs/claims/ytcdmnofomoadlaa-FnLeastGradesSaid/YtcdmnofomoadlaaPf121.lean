-- Printed by this session's own program (wip/tools/mkprint.py) out of the translation. Not trusted: Lean checks it.
import Derived.Test.YtcdmnofomoadlaaM1
/-! short words -/
namespace Go.Proofs.Ytcdmnofomoadlaa.P
open Go.RowKit Go.Proofs.YtcdmnofomoadlaaW.PrintWords Go.Proofs.YtcdmnofomoadlaaW.PrintLast Go.Proofs.YtcdmnofomoadlaaW.PrintMore
attribute [local go_sem] max2_int min2_int max_two min_two max_three min_three max_four min_four   -- for this text's walks alone
set_option linter.unusedVariables false
set_option linter.unusedSimpArgs false

/-! ### impl_counted_1: function 121 -/
def impl_counted_1.f (a0 : Int) (a1 : Int) (a2_0 : Int) : Option (Int) := some (mn (wrap64 (a0 + a1)) a2_0)
set_option maxHeartbeats 8000000 in
set_option maxRecDepth 100000 in
theorem impl_counted_1.calls (a0 : Int) (a1 : Int) (g2 : Nat) (a2_0 : Int) (r : Int) (w : World) (hb2 : w.heap[g2]? = some (.cells #[.int .i64 a2_0] 3 (0, 0))) (h : impl_counted_1.f a0 a1 a2_0 = some r) :
  Calls Try.prog 121 #[.int .i64 a0, .int .i64 a1, .pointer (some ⟨g2, 0, none⟩)] w fun e w' => e = .returned (.int .i64 r) ∧ Below w.heap.size w w' := by
 have BK2 := sd_ hb2
 clear hb2
 have HB := sd_ (Below.refl w.heap.size w)
 have H : (some (mn (wrap64 (a0 + a1)) a2_0)) = some r := h
 clear h
 obtain ⟨ji4, hji4⟩ : ∃ j_ : Int, (mn (wrap64 (a0 + a1)) a2_0) = j_ := ⟨_, rfl⟩
 replace H : (some ji4) = some r := by first | (rw [hji4] at H; exact H) | (simp only [hji4] at H ⊢; exact H)
 have hji4_ : (if a2_0 < (wrap64 (a0 + a1)) then a2_0 else (wrap64 (a0 + a1))) = ji4 := hji4
 obtain rfl := Option.some.inj H
 have hcz5_0 : w.cell? ⟨g2, 0, none⟩ = some (.int .i64 a2_0) := (blk_cell BK2.out 0).trans rfl
 have hfz5_0 := blk_frozen BK2.out 0
 go_enter Try.func121, Try.ntmps121
 go_wp2
 go_ret
 exact ⟨by first | rfl | (simp [errW_none, errW_some] <;> rfl) | (simp only [← hji4]; first | rfl | (simp [errW_none, errW_some] <;> rfl)) | (simp [*, errW_none, errW_some] <;> rfl), bw0_ HB.out⟩

end Go.Proofs.Ytcdmnofomoadlaa.P
