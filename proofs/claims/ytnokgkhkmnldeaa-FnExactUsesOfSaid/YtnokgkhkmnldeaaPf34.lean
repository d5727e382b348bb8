-- Printed by this session's own program (wip/tools/mkprint.py) out of the translation. Not trusted: Lean checks it.
import Derived.Test.YtnokgkhkmnldeaaP0
import Derived.Test.YtnokgkhkmnldeaaPf72
/-! short words -/
namespace Go.Proofs.Ytnokgkhkmnldeaa.P
open Go.RowKit Go.Proofs.YtnokgkhkmnldeaaW.PrintWords Go.Proofs.YtnokgkhkmnldeaaW.PrintLast Go.Proofs.YtnokgkhkmnldeaaW.PrintMore
attribute [local go_sem] max2_int min2_int max_two min_two max_three min_three max_four min_four   -- for this text's walks alone
set_option linter.unusedVariables false
set_option linter.unusedSimpArgs false

/-! ### impl_IsWritten: function 34 -/
def impl_IsWritten.f (k : Nat) (a0_0 : Int) (a0_1 : Int) (l0_2 : List Int) (l0_3 : List (S48)) : Option (Bool) := (impl_writtenSize.f k a0_0 a0_1 l0_2 l0_3).bind fun t619 => (some (decide (t619 ≤ 400)))
set_option maxHeartbeats 8000000 in
set_option maxRecDepth 100000 in
theorem impl_IsWritten.calls (k : Nat) (a0_0 : Int) (a0_1 : Int) (A0_2 : Option Addr) (c0_2 : Nat) (l0_2 : List Int) (A0_3 : Option Addr) (c0_3 : Nat) (l0_3 : List (S48)) (r : Bool) (w : World) (hr0_2 : Kd.C (Kd.int .i64) w A0_2 l0_2.length l0_2) (hc0_2 : l0_2.length ≤ c0_2) (hr0_3 : Kd.C k48 w A0_3 l0_3.length l0_3) (hc0_3 : l0_3.length ≤ c0_3) (h : impl_IsWritten.f k a0_0 a0_1 l0_2 l0_3 = some r) :
  Calls Try.prog 34 #[.agg #[.int .i64 a0_0, .int .i64 a0_1, .slice A0_2 l0_2.length c0_2, .slice A0_3 l0_3.length c0_3]] w fun e w' => e = .returned (.bool r) ∧ Below w.heap.size w w' := by
 have hu48 := Try.underlying48
 have HR0_2 := sd_ hr0_2
 have HC0_2 := sd_ hc0_2
 clear hr0_2 hc0_2
 have HR0_3 := sd_ hr0_3
 have HC0_3 := sd_ hc0_3
 clear hr0_3 hc0_3
 have HB := sd_ (Below.refl w.heap.size w)
 have H : ((impl_writtenSize.f k a0_0 a0_1 l0_2 l0_3).bind fun t619 => (some (decide (t619 ≤ 400)))) = some r := h
 clear h
 replace H := Option.bind_eq_some_iff.mp H
 obtain ⟨t619, A20, H⟩ := H
 replace H : (some (decide (t619 ≤ 400))) = some r := H
 have A2 := sd_ A20
 clear A20
 obtain rfl := Option.some.inj H
 go_enter Try.func34, Try.ntmps34
 go_wp2_with (first | ((with_reducible refine gate_dst (N := 1) rfl ?_); refine box_event ?hg (N := 1) ?hd (cs := #[.int .i64 a0_0, .int .i64 a0_1, .slice A0_2 l0_2.length c0_2, .slice A0_3 l0_3.length c0_3]) (t := 48) ?hr ?_; (case hd => rfl); (case hg => rfl); (case hr => first | (go_simp; done) | (go_simp; rfl)); intro gb618 hg w3 hbox hb; have BK618 := sd_ (hbox); have GW618 := sd_ ((by rw [hg]; exact (below_size (bw0_ HB.out)) : w.heap.size ≤ gb618)); have GE618 := sd_ ((by rw [hg]; exact (below_size (bw0_ HB.out)) : w.heap.size ≤ gb618)); replace HB := sd_ (below_step (bw0_ HB.out) hb); clear hb hbox hg; have hcz4_0 : w3.cell? ⟨gb618, 0, none⟩ = some (.int .i64 a0_0) := (blk_cell BK618.out 0).trans rfl; have hcz4_1 : w3.cell? ⟨gb618, 1, none⟩ = some (.int .i64 a0_1) := (blk_cell BK618.out 1).trans rfl; have hcz4_2 : w3.cell? ⟨gb618, 2, none⟩ = some (.slice A0_2 l0_2.length c0_2) := (blk_cell BK618.out 2).trans rfl; have hcz4_3 : w3.cell? ⟨gb618, 3, none⟩ = some (.slice A0_3 l0_3.length c0_3) := (blk_cell BK618.out 3).trans rfl; have hfz4_0 := blk_frozen BK618.out 0; have hfz4_1 := blk_frozen BK618.out 1; have hfz4_2 := blk_frozen BK618.out 2; have hfz4_3 := blk_frozen BK618.out 3) | ((with_reducible refine gate_callee (f := 72) rfl ?_); refine goesL_ (some 4) rfl rfl Try.func72 (by kernel_rfl) rfl #[.agg #[.int .i64 a0_0, .int .i64 a0_1, .slice A0_2 l0_2.length c0_2, .slice A0_3 l0_3.length c0_3]] rfl (by (try simp only [List.map_toArray, List.map_cons, List.map_nil]); first | done | rfl | (simp only [List.length_drop, List.length_take]; rfl)) ?_; (with_reducible refine (impl_writtenSize.calls k a0_0 a0_1 _ _ l0_2 _ _ l0_3 t619 _ ?side1 ?side2 ?side3 ?side4 A2.out).mono ?_); (case side1 => exact kc_ HR0_2.out HB.out); (case side2 => exact HC0_2.out); (case side3 => exact kc_ HR0_3.out HB.out); (case side4 => exact HC0_3.out); rintro e w5 ⟨rfl, hb⟩; refine ⟨_, rfl, ?_⟩; replace BK618 := sd_ (bb_ BK618.out hb); replace HB := sd_ (below_step (bw1_ HB.out GE618.out) hb); (try clear hb); (try clear hb2); (try clear hk); (try clear hi)))
 go_ret
 exact ⟨by first | rfl | (simp [errW_none, errW_some] <;> rfl) | (simp [*, errW_none, errW_some] <;> rfl), bw1_ HB.out GE618.out⟩

end Go.Proofs.Ytnokgkhkmnldeaa.P
