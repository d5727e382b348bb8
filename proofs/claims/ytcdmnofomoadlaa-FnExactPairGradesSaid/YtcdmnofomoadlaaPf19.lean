-- Printed by this session's own program (wip/tools/mkprint.py) out of the translation. Not trusted: Lean checks it.
import Derived.Test.YtcdmnofomoadlaaP0
import Derived.Test.YtcdmnofomoadlaaPf62
import Derived.Test.YtcdmnofomoadlaaPf63
import Derived.Test.YtcdmnofomoadlaaPf65
/-! short words -/
namespace Go.Proofs.Ytcdmnofomoadlaa.P
open Go.RowKit Go.Proofs.YtcdmnofomoadlaaW.PrintWords Go.Proofs.YtcdmnofomoadlaaW.PrintLast Go.Proofs.YtcdmnofomoadlaaW.PrintMore
attribute [local go_sem] max2_int min2_int max_two min_two max_three min_three max_four min_four   -- for this text's walks alone
set_option linter.unusedVariables false
set_option linter.unusedSimpArgs false

/-! ### impl_PairGrades: function 19 -/
def impl_PairGrades.f (k : Nat) (a0_0 : Int) (l0_1 : List Int) (l0_2 : List Int) (l0_3 : List Bool) (a1_0 : Int) (l1_1 : List Int) (l1_2 : List Int) (l1_3 : List Bool) (a2 : Int) (a3 : Int) : Option (Int) := (impl_isProduct.f k a0_0 l0_1 l0_2 l0_3 a1_0 l1_1 l1_2 l1_3).bind fun t297 => (if t297 = true then ((impl_pairs.f k a0_0 l0_1 l0_2 l0_3 a1_0 l1_1 l1_2 l1_3).bind fun t298 => ((slices_Index_2_int_2_int.f k t298 a2 a3).bind fun t301 => (some t301))) else (some (-1)))
set_option maxHeartbeats 8000000 in
set_option maxRecDepth 100000 in
theorem impl_PairGrades.calls (k : Nat) (a0_0 : Int) (A0_1 : Option Addr) (c0_1 : Nat) (l0_1 : List Int) (A0_2 : Option Addr) (c0_2 : Nat) (l0_2 : List Int) (A0_3 : Option Addr) (c0_3 : Nat) (l0_3 : List Bool) (a1_0 : Int) (A1_1 : Option Addr) (c1_1 : Nat) (l1_1 : List Int) (A1_2 : Option Addr) (c1_2 : Nat) (l1_2 : List Int) (A1_3 : Option Addr) (c1_3 : Nat) (l1_3 : List Bool) (a2 : Int) (a3 : Int) (r : Int) (w : World) (hr0_1 : Kd.C (Kd.int .i64) w A0_1 l0_1.length l0_1) (hc0_1 : l0_1.length ≤ c0_1) (hr0_2 : Kd.C (Kd.int .i64) w A0_2 l0_2.length l0_2) (hc0_2 : l0_2.length ≤ c0_2) (hr0_3 : Kd.C Kd.bool w A0_3 l0_3.length l0_3) (hc0_3 : l0_3.length ≤ c0_3) (hr1_1 : Kd.C (Kd.int .i64) w A1_1 l1_1.length l1_1) (hc1_1 : l1_1.length ≤ c1_1) (hr1_2 : Kd.C (Kd.int .i64) w A1_2 l1_2.length l1_2) (hc1_2 : l1_2.length ≤ c1_2) (hr1_3 : Kd.C Kd.bool w A1_3 l1_3.length l1_3) (hc1_3 : l1_3.length ≤ c1_3) (h : impl_PairGrades.f k a0_0 l0_1 l0_2 l0_3 a1_0 l1_1 l1_2 l1_3 a2 a3 = some r) :
  Calls Try.prog 19 #[.agg #[.int .i64 a0_0, .slice A0_1 l0_1.length c0_1, .slice A0_2 l0_2.length c0_2, .slice A0_3 l0_3.length c0_3], .agg #[.int .i64 a1_0, .slice A1_1 l1_1.length c1_1, .slice A1_2 l1_2.length c1_2, .slice A1_3 l1_3.length c1_3], .int .i64 a2, .int .i64 a3] w fun e w' => e = .returned (.int .i64 r) ∧ Below w.heap.size w w' := by
 have hu27 := Try.underlying27
 have hu71 := Try.underlying71
 have HR0_1 := sd_ hr0_1
 have HC0_1 := sd_ hc0_1
 clear hr0_1 hc0_1
 have HR0_2 := sd_ hr0_2
 have HC0_2 := sd_ hc0_2
 clear hr0_2 hc0_2
 have HR0_3 := sd_ hr0_3
 have HC0_3 := sd_ hc0_3
 clear hr0_3 hc0_3
 have HR1_1 := sd_ hr1_1
 have HC1_1 := sd_ hc1_1
 clear hr1_1 hc1_1
 have HR1_2 := sd_ hr1_2
 have HC1_2 := sd_ hc1_2
 clear hr1_2 hc1_2
 have HR1_3 := sd_ hr1_3
 have HC1_3 := sd_ hc1_3
 clear hr1_3 hc1_3
 have HB := sd_ (Below.refl w.heap.size w)
 have H : ((impl_isProduct.f k a0_0 l0_1 l0_2 l0_3 a1_0 l1_1 l1_2 l1_3).bind fun t297 => (if t297 = true then ((impl_pairs.f k a0_0 l0_1 l0_2 l0_3 a1_0 l1_1 l1_2 l1_3).bind fun t298 => ((slices_Index_2_int_2_int.f k t298 a2 a3).bind fun t301 => (some t301))) else (some (-1)))) = some r := h
 clear h
 replace H := Option.bind_eq_some_iff.mp H
 obtain ⟨t297, A50, H⟩ := H
 replace H : (if t297 = true then ((impl_pairs.f k a0_0 l0_1 l0_2 l0_3 a1_0 l1_1 l1_2 l1_3).bind fun t298 => ((slices_Index_2_int_2_int.f k t298 a2 a3).bind fun t301 => (some t301))) else (some (-1))) = some r := H
 have A5 := sd_ A50
 clear A50
 have HP6 := sd_ H
 clear H
 go_enter Try.func19, Try.ntmps19
 go_upto_if 12 with (first | ((with_reducible refine gate_dst (N := 4) rfl ?_); refine box_event ?hg (N := 4) ?hd (cs := #[.int .i64 a0_0, .slice A0_1 l0_1.length c0_1, .slice A0_2 l0_2.length c0_2, .slice A0_3 l0_3.length c0_3]) (t := 27) ?hr ?_; (case hd => rfl); (case hg => rfl); (case hr => first | (go_simp; done) | (go_simp; rfl)); intro gb295 hg w7 hbox hb; have BK295 := sd_ (hbox); have GW295 := sd_ ((by rw [hg]; exact (below_size (bw0_ HB.out)) : w.heap.size ≤ gb295)); have GE295 := sd_ ((by rw [hg]; exact (below_size (bw0_ HB.out)) : w.heap.size ≤ gb295)); replace HB := sd_ (below_step (bw0_ HB.out) hb); clear hb hbox hg) | ((with_reducible refine gate_dst (N := 5) rfl ?_); refine box_event ?hg (N := 5) ?hd (cs := #[.int .i64 a1_0, .slice A1_1 l1_1.length c1_1, .slice A1_2 l1_2.length c1_2, .slice A1_3 l1_3.length c1_3]) (t := 27) ?hr ?_; (case hd => rfl); (case hg => rfl); (case hr => first | (go_simp; done) | (go_simp; rfl)); intro gb296 hg w8 hbox hb; have BK296 := sd_ (hbox); have GW296 := sd_ ((by rw [hg]; exact (below_size (bw1_ HB.out GE295.out)) : w.heap.size ≤ gb296)); have GE296 := sd_ ((by rw [hg]; exact (below_size (bw1_ HB.out GE295.out)) : w.heap.size ≤ gb296)); replace HB := sd_ (below_step (bw1_ HB.out GE295.out) hb); have NB295_296 := sd_ ((by rw [hg]; exact Nat.ne_of_lt (bl_ BK295.out) : gb295 ≠ gb296)); have NB296_295 := sd_ ((by rw [hg]; exact Nat.ne_of_gt (bl_ BK295.out) : gb296 ≠ gb295)); replace BK295 := sd_ (bb_ BK295.out hb); clear hb hbox hg; have hnb9 := NB295_296.out; have hnc9 := NB296_295.out; have hcz10_0 : w8.cell? ⟨gb295, 0, none⟩ = some (.int .i64 a0_0) := (blk_cell BK295.out 0).trans rfl; have hcz10_1 : w8.cell? ⟨gb295, 1, none⟩ = some (.slice A0_1 l0_1.length c0_1) := (blk_cell BK295.out 1).trans rfl; have hcz10_2 : w8.cell? ⟨gb295, 2, none⟩ = some (.slice A0_2 l0_2.length c0_2) := (blk_cell BK295.out 2).trans rfl; have hcz10_3 : w8.cell? ⟨gb295, 3, none⟩ = some (.slice A0_3 l0_3.length c0_3) := (blk_cell BK295.out 3).trans rfl; have hfz10_0 := blk_frozen BK295.out 0; have hfz10_1 := blk_frozen BK295.out 1; have hfz10_2 := blk_frozen BK295.out 2; have hfz10_3 := blk_frozen BK295.out 3; have hcz11_0 : w8.cell? ⟨gb296, 0, none⟩ = some (.int .i64 a1_0) := (blk_cell BK296.out 0).trans rfl; have hcz11_1 : w8.cell? ⟨gb296, 1, none⟩ = some (.slice A1_1 l1_1.length c1_1) := (blk_cell BK296.out 1).trans rfl; have hcz11_2 : w8.cell? ⟨gb296, 2, none⟩ = some (.slice A1_2 l1_2.length c1_2) := (blk_cell BK296.out 2).trans rfl; have hcz11_3 : w8.cell? ⟨gb296, 3, none⟩ = some (.slice A1_3 l1_3.length c1_3) := (blk_cell BK296.out 3).trans rfl; have hfz11_0 := blk_frozen BK296.out 0; have hfz11_1 := blk_frozen BK296.out 1; have hfz11_2 := blk_frozen BK296.out 2; have hfz11_3 := blk_frozen BK296.out 3) | ((with_reducible refine gate_callee (f := 62) rfl ?_); refine goesL_ (some 11) rfl rfl Try.func62 (by kernel_rfl) rfl #[.agg #[.int .i64 a0_0, .slice A0_1 l0_1.length c0_1, .slice A0_2 l0_2.length c0_2, .slice A0_3 l0_3.length c0_3], .agg #[.int .i64 a1_0, .slice A1_1 l1_1.length c1_1, .slice A1_2 l1_2.length c1_2, .slice A1_3 l1_3.length c1_3]] rfl (by (try simp only [List.map_toArray, List.map_cons, List.map_nil]); first | done | rfl | (simp only [List.length_drop, List.length_take]; rfl)) ?_; (with_reducible refine (impl_isProduct.calls k a0_0 _ _ l0_1 _ _ l0_2 _ _ l0_3 a1_0 _ _ l1_1 _ _ l1_2 _ _ l1_3 t297 _ ?side1 ?side2 ?side3 ?side4 ?side5 ?side6 ?side7 ?side8 ?side9 ?side10 ?side11 ?side12 A5.out).mono ?_); (case side1 => exact kc_ HR0_1.out HB.out); (case side2 => exact HC0_1.out); (case side3 => exact kc_ HR0_2.out HB.out); (case side4 => exact HC0_2.out); (case side5 => exact kc_ HR0_3.out HB.out); (case side6 => exact HC0_3.out); (case side7 => exact kc_ HR1_1.out HB.out); (case side8 => exact HC1_1.out); (case side9 => exact kc_ HR1_2.out HB.out); (case side10 => exact HC1_2.out); (case side11 => exact kc_ HR1_3.out HB.out); (case side12 => exact HC1_3.out); rintro e w12 ⟨rfl, hb⟩; refine ⟨_, rfl, ?_⟩; replace BK295 := sd_ (bb_ BK295.out hb); replace BK296 := sd_ (bb_ BK296.out hb); replace HB := sd_ (below_step (bw2_ HB.out GE295.out GE296.out) hb); (try clear hb); (try clear hb2); (try clear hk); (try clear hi)))
 have H := HP6.out
 clear HP6
 by_cases c13 : t297 = true
 ·subst c13
  have H1 : ((impl_pairs.f k a0_0 l0_1 l0_2 l0_3 a1_0 l1_1 l1_2 l1_3).bind fun t298 => ((slices_Index_2_int_2_int.f k t298 a2 a3).bind fun t301 => (some t301))) = some r := by rw [if_pos rfl] at H; exact H
  clear H
  have H := H1
  clear H1
  replace H := Option.bind_eq_some_iff.mp H
  obtain ⟨t298, A140, H⟩ := H
  replace H : ((slices_Index_2_int_2_int.f k t298 a2 a3).bind fun t301 => (some t301)) = some r := H
  have A14 := sd_ A140
  clear A140
  replace H := Option.bind_eq_some_iff.mp H
  obtain ⟨t301, A150, H⟩ := H
  replace H : (some t301) = some r := H
  have A15 := sd_ A150
  clear A150
  obtain rfl := Option.some.inj H
  have hnb16 := NB295_296.out
  have hnc16 := NB296_295.out
  have hcz17_0 : w12.cell? ⟨gb295, 0, none⟩ = some (.int .i64 a0_0) := (blk_cell BK295.out 0).trans rfl
  have hcz17_1 : w12.cell? ⟨gb295, 1, none⟩ = some (.slice A0_1 l0_1.length c0_1) := (blk_cell BK295.out 1).trans rfl
  have hcz17_2 : w12.cell? ⟨gb295, 2, none⟩ = some (.slice A0_2 l0_2.length c0_2) := (blk_cell BK295.out 2).trans rfl
  have hcz17_3 : w12.cell? ⟨gb295, 3, none⟩ = some (.slice A0_3 l0_3.length c0_3) := (blk_cell BK295.out 3).trans rfl
  have hfz17_0 := blk_frozen BK295.out 0
  have hfz17_1 := blk_frozen BK295.out 1
  have hfz17_2 := blk_frozen BK295.out 2
  have hfz17_3 := blk_frozen BK295.out 3
  have hcz18_0 : w12.cell? ⟨gb296, 0, none⟩ = some (.int .i64 a1_0) := (blk_cell BK296.out 0).trans rfl
  have hcz18_1 : w12.cell? ⟨gb296, 1, none⟩ = some (.slice A1_1 l1_1.length c1_1) := (blk_cell BK296.out 1).trans rfl
  have hcz18_2 : w12.cell? ⟨gb296, 2, none⟩ = some (.slice A1_2 l1_2.length c1_2) := (blk_cell BK296.out 2).trans rfl
  have hcz18_3 : w12.cell? ⟨gb296, 3, none⟩ = some (.slice A1_3 l1_3.length c1_3) := (blk_cell BK296.out 3).trans rfl
  have hfz18_0 := blk_frozen BK296.out 0
  have hfz18_1 := blk_frozen BK296.out 1
  have hfz18_2 := blk_frozen BK296.out 2
  have hfz18_3 := blk_frozen BK296.out 3
  go_wp2_with (first | ((with_reducible refine gate_callee (f := 63) rfl ?_); refine goesL_ (some 15) rfl rfl Try.func63 (by kernel_rfl) rfl #[.agg #[.int .i64 a0_0, .slice A0_1 l0_1.length c0_1, .slice A0_2 l0_2.length c0_2, .slice A0_3 l0_3.length c0_3], .agg #[.int .i64 a1_0, .slice A1_1 l1_1.length c1_1, .slice A1_2 l1_2.length c1_2, .slice A1_3 l1_3.length c1_3]] rfl (by (try simp only [List.map_toArray, List.map_cons, List.map_nil]); first | done | rfl | (simp only [List.length_drop, List.length_take]; rfl)) ?_; (with_reducible refine (impl_pairs.calls k a0_0 _ _ l0_1 _ _ l0_2 _ _ l0_3 a1_0 _ _ l1_1 _ _ l1_2 _ _ l1_3 t298 _ ?side1 ?side2 ?side3 ?side4 ?side5 ?side6 ?side7 ?side8 ?side9 ?side10 ?side11 ?side12 A14.out).mono ?_); (case side1 => exact kc_ HR0_1.out HB.out); (case side2 => exact HC0_1.out); (case side3 => exact kc_ HR0_2.out HB.out); (case side4 => exact HC0_2.out); (case side5 => exact kc_ HR0_3.out HB.out); (case side6 => exact HC0_3.out); (case side7 => exact kc_ HR1_1.out HB.out); (case side8 => exact HC1_1.out); (case side9 => exact kc_ HR1_2.out HB.out); (case side10 => exact HC1_2.out); (case side11 => exact kc_ HR1_3.out HB.out); (case side12 => exact HC1_3.out); rintro e w19 ⟨v299, rfl, ho0, hb⟩; refine ⟨_, rfl, ?_⟩; have HO300 := sd_ (Kd.R_lower ho0 (below_size (bw2_ HB.out GE295.out GE296.out))); replace BK295 := sd_ (bb_ BK295.out hb); replace BK296 := sd_ (bb_ BK296.out hb); replace HB := sd_ (below_step (bw2_ HB.out GE295.out GE296.out) hb); (try clear hb); (try clear hb2); (try clear hk); (try clear hi); (try clear ho0); obtain ⟨Ao20, co20, eo20⟩ := Kd.R_slice HO300.out; subst eo20) | ((with_reducible refine gate_callee (f := 65) rfl ?_); refine goesL_ (some 19) rfl rfl Try.func65 (by kernel_rfl) rfl #[.slice Ao20 t298.length co20, .agg #[.int .i64 a2, .int .i64 a3]] rfl (by (try simp only [List.map_toArray, List.map_cons, List.map_nil]); first | done | rfl | (simp only [List.length_drop, List.length_take]; rfl)) ?_; (with_reducible refine (slices_Index_2_int_2_int.calls k _ _ t298 a2 a3 t301 _ ?side1 ?side2 A15.out).mono ?_); (case side1 => exact kp_ (Kd.R_reads' HO300.out).2.2); (case side2 => exact (Kd.R_reads' HO300.out).2.1); rintro e w21 ⟨rfl, hb⟩; refine ⟨_, rfl, ?_⟩; replace HO300 := sd_ (Kd.R_below (ro_ HO300.out) hb); replace BK295 := sd_ (bb_ BK295.out hb); replace BK296 := sd_ (bb_ BK296.out hb); replace HB := sd_ (below_step (bw2_ HB.out GE295.out GE296.out) hb); (try clear hb); (try clear hb2); (try clear hk); (try clear hi)))
  go_ret
  exact ⟨by first | rfl | (simp [errW_none, errW_some] <;> rfl) | (simp [*, errW_none, errW_some] <;> rfl), bw2_ HB.out GE295.out GE296.out⟩
 ·replace c13 := Bool.eq_false_iff.mpr c13
  subst c13
  have H1 : (some (-1)) = some r := by rw [if_neg (show ¬ (false = true) by decide)] at H; exact H
  clear H
  have H := H1
  clear H1
  obtain rfl := Option.some.inj H
  go_wp2
  go_ret
  exact ⟨by first | rfl | (simp [errW_none, errW_some] <;> rfl) | (simp [*, errW_none, errW_some] <;> rfl), bw2_ HB.out GE295.out GE296.out⟩

end Go.Proofs.Ytcdmnofomoadlaa.P
