-- Printed by this session's own program (wip/tools/mkprint.py) out of the translation. Not trusted: Lean checks it.
import Derived.Test.YtnokgkhkmnldeaaP0
import Derived.Test.YtnokgkhkmnldeaaPf101
import Derived.Test.YtnokgkhkmnldeaaPf102
import Derived.Test.YtnokgkhkmnldeaaPf49
import Derived.Laws.EntriesVeiled
/-! short words -/
namespace Go.Proofs.Ytnokgkhkmnldeaa.P
open Go.RowKit Go.Proofs.YtnokgkhkmnldeaaW.PrintWords Go.Proofs.YtnokgkhkmnldeaaW.PrintLast Go.Proofs.YtnokgkhkmnldeaaW.PrintMore
attribute [local go_sem] max2_int min2_int max_two min_two max_three min_three max_four min_four   -- for this text's walks alone
set_option linter.unusedVariables false
set_option linter.unusedSimpArgs false

/-! ### impl_writtenSize: function 72 -/
def impl_writtenSize.f (k : Nat) (a0_0 : Int) (a0_1 : Int) (l0_2 : List Int) (l0_3 : List (S48)) : Option (Int) := (impl_check.f k a0_0 a0_1 l0_2 l0_3 8 (fun z0_ => impl_writtenSize_1.f z0_) (fun z0_ => impl_isWrittenType.f k z0_) 0).bind fun t617 => (some t617)
set_option maxHeartbeats 8000000 in
set_option maxRecDepth 100000 in
theorem impl_writtenSize.calls (k : Nat) (a0_0 : Int) (a0_1 : Int) (A0_2 : Option Addr) (c0_2 : Nat) (l0_2 : List Int) (A0_3 : Option Addr) (c0_3 : Nat) (l0_3 : List (S48)) (r : Int) (w : World) (hr0_2 : Kd.C (Kd.int .i64) w A0_2 l0_2.length l0_2) (hc0_2 : l0_2.length ≤ c0_2) (hr0_3 : Kd.C k48 w A0_3 l0_3.length l0_3) (hc0_3 : l0_3.length ≤ c0_3) (h : impl_writtenSize.f k a0_0 a0_1 l0_2 l0_3 = some r) :
  Calls Try.prog 72 #[.agg #[.int .i64 a0_0, .int .i64 a0_1, .slice A0_2 l0_2.length c0_2, .slice A0_3 l0_3.length c0_3]] w fun e w' => e = .returned (.int .i64 r) ∧ Below w.heap.size w w' := by
 have hu48 := Try.underlying48
 have HR0_2 := sd_ hr0_2
 have HC0_2 := sd_ hc0_2
 clear hr0_2 hc0_2
 have HR0_3 := sd_ hr0_3
 have HC0_3 := sd_ hc0_3
 clear hr0_3 hc0_3
 have HB := sd_ (Below.refl w.heap.size w)
 have H : ((impl_check.f k a0_0 a0_1 l0_2 l0_3 8 (fun z0_ => impl_writtenSize_1.f z0_) (fun z0_ => impl_isWrittenType.f k z0_) 0).bind fun t617 => (some t617)) = some r := h
 clear h
 replace H := Option.bind_eq_some_iff.mp H
 obtain ⟨t617, A20, H⟩ := H
 replace H : (some t617) = some r := H
 have A2 := sd_ A20
 clear A20
 obtain rfl := Option.some.inj H
 go_enter Try.func72, Try.ntmps72
 go_wp2_with (first | ((with_reducible refine gate_dst (N := 1) rfl ?_); refine box_event ?hg (N := 1) ?hd (cs := #[.int .i64 a0_0, .int .i64 a0_1, .slice A0_2 l0_2.length c0_2, .slice A0_3 l0_3.length c0_3]) (t := 48) ?hr ?_; (case hd => rfl); (case hg => rfl); (case hr => first | (go_simp; done) | (go_simp; rfl)); intro gb616 hg w3 hbox hb; have BK616 := sd_ (hbox); have GW616 := sd_ ((by rw [hg]; exact (below_size (bw0_ HB.out)) : w.heap.size ≤ gb616)); have GE616 := sd_ ((by rw [hg]; exact (below_size (bw0_ HB.out)) : w.heap.size ≤ gb616)); replace HB := sd_ (below_step (bw0_ HB.out) hb); clear hb hbox hg; have hcz4_0 : w3.cell? ⟨gb616, 0, none⟩ = some (.int .i64 a0_0) := (blk_cell BK616.out 0).trans rfl; have hcz4_1 : w3.cell? ⟨gb616, 1, none⟩ = some (.int .i64 a0_1) := (blk_cell BK616.out 1).trans rfl; have hcz4_2 : w3.cell? ⟨gb616, 2, none⟩ = some (.slice A0_2 l0_2.length c0_2) := (blk_cell BK616.out 2).trans rfl; have hcz4_3 : w3.cell? ⟨gb616, 3, none⟩ = some (.slice A0_3 l0_3.length c0_3) := (blk_cell BK616.out 3).trans rfl; have hfz4_0 := blk_frozen BK616.out 0; have hfz4_1 := blk_frozen BK616.out 1; have hfz4_2 := blk_frozen BK616.out 2; have hfz4_3 := blk_frozen BK616.out 3) | ((with_reducible refine gate_callee (f := 101) rfl ?_); refine goesL_ (some 4) rfl rfl Try.func101 (by kernel_rfl) rfl #[.agg #[.int .i64 a0_0, .int .i64 a0_1, .slice A0_2 l0_2.length c0_2, .slice A0_3 l0_3.length c0_3], .int .i64 8, .func (.func 102) #[] #[], .func (.func 49) #[] #[], .int .i64 0] rfl (by (try simp only [List.map_toArray, List.map_cons, List.map_nil]); first | done | rfl | (simp only [List.length_drop, List.length_take]; rfl)) ?_; (with_reducible refine (impl_check.calls k a0_0 a0_1 _ _ l0_2 _ _ l0_3 8 (fun z0_ => impl_writtenSize_1.f z0_) 102 #[] #[] (fun z0_ => impl_isWrittenType.f k z0_) 49 #[] #[] 0 t617 _ ?side1 ?side2 ?side3 ?side4 ?side5 ?side6 ?side7 ?side8 A2.out).mono ?_); (case side1 => exact kc_ HR0_2.out HB.out); (case side2 => exact HC0_2.out); (case side3 => exact kc_ HR0_3.out HB.out); (case side4 => exact HC0_3.out); (case side5 => exact ⟨_, Try.func102, (by kernel_rfl), rfl⟩); (case side6 => intro z0_0 rr0_0 w9_0  hb9_0 h9_0; refine calls_of_args (args' := #[.int .i64 z0_0]) (by first | rfl | simp) ?_; refine (impl_writtenSize_1.calls z0_0 rr0_0 w9_0  h9_0).mono ?_; exact fun _ _ h_ => ⟨h_.1, h_.2.below⟩); (case side7 => exact ⟨_, Try.func49, (by kernel_rfl), rfl⟩); (case side8 => intro A0_0 c0_0 z0_0 rr0_0 w9_0 hr0_0 hc0_0 hb9_0 h9_0; refine calls_of_args (args' := #[.slice A0_0 z0_0.length c0_0]) (by first | rfl | simp) ?_; refine (impl_isWrittenType.calls k A0_0 c0_0 z0_0 rr0_0 w9_0 hr0_0 hc0_0 h9_0).mono ?_; exact fun _ _ h_ => ⟨h_.1, h_.2.below⟩); rintro e w5 ⟨rfl, hb⟩; refine ⟨_, rfl, ?_⟩; replace BK616 := sd_ (bb_ BK616.out hb); replace HB := sd_ (below_step (bw1_ HB.out GE616.out) hb); (try clear hb); (try clear hb2); (try clear hk); (try clear hi)))
 go_ret
 exact ⟨by first | rfl | (simp [errW_none, errW_some] <;> rfl) | (simp [*, errW_none, errW_some] <;> rfl), bw1_ HB.out GE616.out⟩

end Go.Proofs.Ytnokgkhkmnldeaa.P
