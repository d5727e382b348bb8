-- Printed by this session's own program (wip/tools/mkprint.py) out of the translation. Not trusted: Lean checks it.
import Derived.Test.YthdbijjkcoafiaaP0
import Derived.Test.YthdbijjkcoafiaaPf52
namespace Go.Proofs.Ythdbijjkcoafiaa.P
open Go.RowKit Go.Proofs.YthdbijjkcoafiaaW.PrintWords Go.Proofs.YthdbijjkcoafiaaW.PrintLast Go.Proofs.YthdbijjkcoafiaaW.PrintMore
attribute [local go_sem] max2_int min2_int max_two min_two max_three min_three max_four min_four   -- for this text's walks alone
set_option linter.unusedVariables false
set_option linter.unusedSimpArgs false

/-! ### impl_IsMap_1: function 68 -/
def impl_IsMap_1.f (a0 : Int) (a1_0 : Int) (l1_1 : List Int) (l1_2 : List Int) (l1_3 : List Bool) : Option (Bool) := (impl_System_has.f a1_0 l1_1 l1_2 l1_3 a0).bind fun t747 => (some (!t747))
set_option maxHeartbeats 8000000 in
set_option maxRecDepth 100000 in
theorem impl_IsMap_1.calls (a0 : Int) (g1 : Nat) (a1_0 : Int) (A1_1 : Option Addr) (c1_1 : Nat) (l1_1 : List Int) (A1_2 : Option Addr) (c1_2 : Nat) (l1_2 : List Int) (A1_3 : Option Addr) (c1_3 : Nat) (l1_3 : List Bool) (r : Bool) (w : World) (hr1_1 : Kd.C (Kd.int .i64) w A1_1 l1_1.length l1_1) (hc1_1 : l1_1.length ≤ c1_1) (hr1_2 : Kd.C (Kd.int .i64) w A1_2 l1_2.length l1_2) (hc1_2 : l1_2.length ≤ c1_2) (hr1_3 : Kd.C Kd.bool w A1_3 l1_3.length l1_3) (hc1_3 : l1_3.length ≤ c1_3) (hb1 : w.heap[g1]? = some (.cells #[.int .i64 a1_0, .slice A1_1 l1_1.length c1_1, .slice A1_2 l1_2.length c1_2, .slice A1_3 l1_3.length c1_3] 28 (0, 0))) (h : impl_IsMap_1.f a0 a1_0 l1_1 l1_2 l1_3 = some r) :
    Calls Try.prog 68 #[.int .i64 a0, .pointer (some ⟨g1, 0, none⟩)] w fun e w' => e = .returned (.bool r) ∧ Below w.heap.size w w' := by
  have hu28 := Try.underlying28
  have HR1_1 := Aside0.mk hr1_1
  have HC1_1 := Aside0.mk hc1_1
  clear hr1_1 hc1_1
  have HR1_2 := Aside0.mk hr1_2
  have HC1_2 := Aside0.mk hc1_2
  clear hr1_2 hc1_2
  have HR1_3 := Aside0.mk hr1_3
  have HC1_3 := Aside0.mk hc1_3
  clear hr1_3 hc1_3
  have BK1 := Aside0.mk hb1
  clear hb1
  have HB := Aside0.mk (Below.refl w.heap.size w)
  have H : ((impl_System_has.f a1_0 l1_1 l1_2 l1_3 a0).bind fun t747 => (some (!t747))) = some r := h
  clear h
  replace H := Option.bind_eq_some_iff.mp H
  obtain ⟨t747, A30, H⟩ := H
  replace H : (some (!t747)) = some r := H
  have A3 := Aside0.mk A30
  clear A30
  obtain rfl := Option.some.inj H
  have hcz4_0 : w.cell? ⟨g1, 0, none⟩ = some (.int .i64 a1_0) := (blk_cell BK1.out 0).trans rfl
  have hcz4_1 : w.cell? ⟨g1, 1, none⟩ = some (.slice A1_1 l1_1.length c1_1) := (blk_cell BK1.out 1).trans rfl
  have hcz4_2 : w.cell? ⟨g1, 2, none⟩ = some (.slice A1_2 l1_2.length c1_2) := (blk_cell BK1.out 2).trans rfl
  have hcz4_3 : w.cell? ⟨g1, 3, none⟩ = some (.slice A1_3 l1_3.length c1_3) := (blk_cell BK1.out 3).trans rfl
  have hfz4_0 := blk_frozen BK1.out 0
  have hfz4_1 := blk_frozen BK1.out 1
  have hfz4_2 := blk_frozen BK1.out 2
  have hfz4_3 := blk_frozen BK1.out 3
  go_enter Try.func68, Try.ntmps68
  go_wp2_with (first | ((with_reducible refine gate_callee (f := 52) rfl ?_); refine goesL_ (some 6) rfl rfl Try.func52 (by kernel_rfl) rfl #[.agg #[.int .i64 a1_0, .slice A1_1 l1_1.length c1_1, .slice A1_2 l1_2.length c1_2, .slice A1_3 l1_3.length c1_3], .int .i64 a0] rfl (by (try simp only [List.map_toArray, List.map_cons, List.map_nil]); first | done | rfl | (simp only [List.length_drop, List.length_take]; rfl)) ?_; (with_reducible refine (impl_System_has.calls a1_0 _ _ l1_1 _ _ l1_2 _ _ l1_3 a0 t747 _ ?side1 ?side2 ?side3 ?side4 ?side5 ?side6 A3.out).mono ?_); (case side1 => repeat (first | exact HR1_1.out | (with_reducible refine Kd.C_alloc ?_ _) | (with_reducible refine Kd.C_drewN ?_ _) | (with_reducible refine Kd.C_drew ?_))); (case side2 => exact HC1_1.out); (case side3 => repeat (first | exact HR1_2.out | (with_reducible refine Kd.C_alloc ?_ _) | (with_reducible refine Kd.C_drewN ?_ _) | (with_reducible refine Kd.C_drew ?_))); (case side4 => exact HC1_2.out); (case side5 => repeat (first | exact HR1_3.out | (with_reducible refine Kd.C_alloc ?_ _) | (with_reducible refine Kd.C_drewN ?_ _) | (with_reducible refine Kd.C_drew ?_))); (case side6 => exact HC1_3.out); rintro e w5 ⟨rfl, hb⟩; refine ⟨_, rfl, ?_⟩; have n0_ := Aside0.mk (blk_below (g := g1) (o := .cells #[.int .i64 a1_0, .slice A1_1 l1_1.length c1_1, .slice A1_2 l1_2.length c1_2, .slice A1_3 l1_3.length c1_3] 28 (0, 0)) (by (with_reducible repeat (first | refine blk_drewN ?_ _ | refine blk_drew ?_ | refine blk_alloc ?_ _)); exact BK1.out) hb); have n1_ := Aside0.mk (below_step (by repeat (first | (with_reducible first | exact HB.out | apply below_alloc | apply pw_below_drewN | apply below_drew1 | refine below_set ?_ GE1.out) | exact HB.out)) hb); clear BK1; clear HB; have BK1 := n0_; have HB := n1_; clear n0_ n1_; (try clear hb); (try clear hb2); (try clear hk); (try clear hi)))
  go_ret
  exact ⟨by first | rfl | (simp [errW_none, errW_some] <;> rfl) | (simp [*, errW_none, errW_some] <;> rfl), by repeat (first | (with_reducible first | exact HB.out | apply below_alloc | apply pw_below_drewN | apply below_drew1 | refine below_set ?_ GE1.out) | exact HB.out)⟩

end Go.Proofs.Ythdbijjkcoafiaa.P
