-- Printed by this session's own program (wip/tools/mkprint.py) out of the translation. Not trusted: Lean checks it.
import Derived.Test.YtcdmnofomoadlaaP0
import Derived.Test.YtcdmnofomoadlaaPf79
import Derived.Test.YtcdmnofomoadlaaPf80
import Derived.Test.YtcdmnofomoadlaaPf86
import Derived.Test.YtcdmnofomoadlaaPf87
/-! short words -/
namespace Go.Proofs.Ytcdmnofomoadlaa.P
open Go.RowKit Go.Proofs.YtcdmnofomoadlaaW.PrintWords Go.Proofs.YtcdmnofomoadlaaW.PrintLast Go.Proofs.YtcdmnofomoadlaaW.PrintMore
attribute [local go_sem] max2_int min2_int max_two min_two max_three min_three max_four min_four   -- for this text's walks alone
set_option linter.unusedVariables false
set_option linter.unusedSimpArgs false

/-! ### spec_PartsOfGrade: function 26 -/
def spec_PartsOfGrade.j0 : Nat → Int → Bool → Int → List Int → List Int → List Bool → Option (Int × Int)
 | 0, _, _, _, _, _, _ => none
 | k + 1, x2, x22, x584000, x584001, x584002, x584003 => if x22 = true then (some ((-1), (-1))) else ((spec_l1First.f x584000 x2).bind fun t586 => ((spec_l1Second.f x584000 x2).bind fun t587 => (some (t586, t587))))
def spec_PartsOfGrade.f (k : Nat) (a0_0 : Int) (l0_1 : List Int) (l0_2 : List Int) (l0_3 : List Bool) (a1_0 : Int) (l1_1 : List Int) (l1_2 : List Int) (l1_3 : List Bool) (a2 : Int) : Option (Int × Int) := (spec_l1Product.f k a0_0 l0_1 l0_2 l0_3 a1_0 l1_1 l1_2 l1_3).bind fun t584 => (if t584 = true then ((spec_l1In.f a2 0 (wrap64 ((wrap64 (a0_0 * a1_0)) - 1))).bind fun t585 => (spec_PartsOfGrade.j0 k a2 (!t585) a1_0 l1_1 l1_2 l1_3)) else (spec_PartsOfGrade.j0 k a2 true a1_0 l1_1 l1_2 l1_3))
set_option maxHeartbeats 8000000 in
set_option maxRecDepth 100000 in
theorem spec_PartsOfGrade.calls (k : Nat) (a0_0 : Int) (A0_1 : Option Addr) (c0_1 : Nat) (l0_1 : List Int) (A0_2 : Option Addr) (c0_2 : Nat) (l0_2 : List Int) (A0_3 : Option Addr) (c0_3 : Nat) (l0_3 : List Bool) (a1_0 : Int) (A1_1 : Option Addr) (c1_1 : Nat) (l1_1 : List Int) (A1_2 : Option Addr) (c1_2 : Nat) (l1_2 : List Int) (A1_3 : Option Addr) (c1_3 : Nat) (l1_3 : List Bool) (a2 : Int) (r1 : Int) (r2 : Int) (w : World) (hr0_1 : Kd.C (Kd.int .i64) w A0_1 l0_1.length l0_1) (hc0_1 : l0_1.length ≤ c0_1) (hr0_2 : Kd.C (Kd.int .i64) w A0_2 l0_2.length l0_2) (hc0_2 : l0_2.length ≤ c0_2) (hr0_3 : Kd.C Kd.bool w A0_3 l0_3.length l0_3) (hc0_3 : l0_3.length ≤ c0_3) (hr1_1 : Kd.C (Kd.int .i64) w A1_1 l1_1.length l1_1) (hc1_1 : l1_1.length ≤ c1_1) (hr1_2 : Kd.C (Kd.int .i64) w A1_2 l1_2.length l1_2) (hc1_2 : l1_2.length ≤ c1_2) (hr1_3 : Kd.C Kd.bool w A1_3 l1_3.length l1_3) (hc1_3 : l1_3.length ≤ c1_3) (h : spec_PartsOfGrade.f k a0_0 l0_1 l0_2 l0_3 a1_0 l1_1 l1_2 l1_3 a2 = some (r1, r2)) :
  Calls Try.prog 26 #[.agg #[.int .i64 a0_0, .slice A0_1 l0_1.length c0_1, .slice A0_2 l0_2.length c0_2, .slice A0_3 l0_3.length c0_3], .agg #[.int .i64 a1_0, .slice A1_1 l1_1.length c1_1, .slice A1_2 l1_2.length c1_2, .slice A1_3 l1_3.length c1_3], .int .i64 a2] w fun e w' => e = .returned (.tuple #[.int .i64 r1, .int .i64 r2]) ∧ Below w.heap.size w w' := by
 have hu27 := Try.underlying27
 have HR0_1 := sd_ hr0_1
 have HC0_1 := sd_ hc0_1
 clear hr0_1 hc0_1
 have HR0_2 := sd_ hr0_2
 have HC0_2 := sd_ hc0_2
 clear hr0_2 hc0_2
 have HR0_3 := sd_ hr0_3
 have HC0_3 := sd_ hc0_3
 clear hr0_3 hc0_3
 have HR1_1 := sd_ hr1_1
 have HC1_1 := sd_ hc1_1
 clear hr1_1 hc1_1
 have HR1_2 := sd_ hr1_2
 have HC1_2 := sd_ hc1_2
 clear hr1_2 hc1_2
 have HR1_3 := sd_ hr1_3
 have HC1_3 := sd_ hc1_3
 clear hr1_3 hc1_3
 have HB := sd_ (Below.refl w.heap.size w)
 have H : ((spec_l1Product.f k a0_0 l0_1 l0_2 l0_3 a1_0 l1_1 l1_2 l1_3).bind fun t584 => (if t584 = true then ((spec_l1In.f a2 0 (wrap64 ((wrap64 (a0_0 * a1_0)) - 1))).bind fun t585 => (spec_PartsOfGrade.j0 k a2 (!t585) a1_0 l1_1 l1_2 l1_3)) else (spec_PartsOfGrade.j0 k a2 true a1_0 l1_1 l1_2 l1_3))) = some (r1, r2) := h
 clear h
 have HC4 := sd_ H
 clear H
 go_enter Try.func26, Try.ntmps26
 go_upto_region 1 with (first | ((with_reducible refine gate_dst (N := 3) rfl ?_); refine box_event ?hg (N := 3) ?hd (cs := #[.int .i64 a0_0, .slice A0_1 l0_1.length c0_1, .slice A0_2 l0_2.length c0_2, .slice A0_3 l0_3.length c0_3]) (t := 27) ?hr ?_; (case hd => rfl); (case hg => rfl); (case hr => first | (go_simp; done) | (go_simp; rfl)); intro gb582 hg w5 hbox hb; have BK582 := sd_ (hbox); have GW582 := sd_ ((by rw [hg]; exact (below_size (bw0_ HB.out)) : w.heap.size ≤ gb582)); have GE582 := sd_ ((by rw [hg]; exact (below_size (bw0_ HB.out)) : w.heap.size ≤ gb582)); replace HB := sd_ (below_step (bw0_ HB.out) hb); clear hb hbox hg) | ((with_reducible refine gate_dst (N := 4) rfl ?_); refine box_event ?hg (N := 4) ?hd (cs := #[.int .i64 a1_0, .slice A1_1 l1_1.length c1_1, .slice A1_2 l1_2.length c1_2, .slice A1_3 l1_3.length c1_3]) (t := 27) ?hr ?_; (case hd => rfl); (case hg => rfl); (case hr => first | (go_simp; done) | (go_simp; rfl)); intro gb583 hg w6 hbox hb; have BK583 := sd_ (hbox); have GW583 := sd_ ((by rw [hg]; exact (below_size (bw1_ HB.out GE582.out)) : w.heap.size ≤ gb583)); have GE583 := sd_ ((by rw [hg]; exact (below_size (bw1_ HB.out GE582.out)) : w.heap.size ≤ gb583)); replace HB := sd_ (below_step (bw1_ HB.out GE582.out) hb); have NB582_583 := sd_ ((by rw [hg]; exact Nat.ne_of_lt (bl_ BK582.out) : gb582 ≠ gb583)); have NB583_582 := sd_ ((by rw [hg]; exact Nat.ne_of_gt (bl_ BK582.out) : gb583 ≠ gb582)); replace BK582 := sd_ (bb_ BK582.out hb); clear hb hbox hg))
 repeat (go_quiet (first | ((with_reducible refine gate_dst (N := 3) rfl ?_); refine box_event ?hg (N := 3) ?hd (cs := #[.int .i64 a0_0, .slice A0_1 l0_1.length c0_1, .slice A0_2 l0_2.length c0_2, .slice A0_3 l0_3.length c0_3]) (t := 27) ?hr ?_; (case hd => rfl); (case hg => rfl); (case hr => first | (go_simp; done) | (go_simp; rfl)); intro gb582 hg w5 hbox hb; have BK582 := sd_ (hbox); have GW582 := sd_ ((by rw [hg]; exact (below_size (bw0_ HB.out)) : w.heap.size ≤ gb582)); have GE582 := sd_ ((by rw [hg]; exact (below_size (bw0_ HB.out)) : w.heap.size ≤ gb582)); replace HB := sd_ (below_step (bw0_ HB.out) hb); clear hb hbox hg) | ((with_reducible refine gate_dst (N := 4) rfl ?_); refine box_event ?hg (N := 4) ?hd (cs := #[.int .i64 a1_0, .slice A1_1 l1_1.length c1_1, .slice A1_2 l1_2.length c1_2, .slice A1_3 l1_3.length c1_3]) (t := 27) ?hr ?_; (case hd => rfl); (case hg => rfl); (case hr => first | (go_simp; done) | (go_simp; rfl)); intro gb583 hg w6 hbox hb; have BK583 := sd_ (hbox); have GW583 := sd_ ((by rw [hg]; exact (below_size (bw1_ HB.out GE582.out)) : w.heap.size ≤ gb583)); have GE583 := sd_ ((by rw [hg]; exact (below_size (bw1_ HB.out GE582.out)) : w.heap.size ≤ gb583)); replace HB := sd_ (below_step (bw1_ HB.out GE582.out) hb); have NB582_583 := sd_ ((by rw [hg]; exact Nat.ne_of_lt (bl_ BK582.out) : gb582 ≠ gb583)); have NB583_582 := sd_ ((by rw [hg]; exact Nat.ne_of_gt (bl_ BK582.out) : gb583 ≠ gb582)); replace BK582 := sd_ (bb_ BK582.out hb); clear hb hbox hg)); go_upto_region 1 with (first | ((with_reducible refine gate_dst (N := 3) rfl ?_); refine box_event ?hg (N := 3) ?hd (cs := #[.int .i64 a0_0, .slice A0_1 l0_1.length c0_1, .slice A0_2 l0_2.length c0_2, .slice A0_3 l0_3.length c0_3]) (t := 27) ?hr ?_; (case hd => rfl); (case hg => rfl); (case hr => first | (go_simp; done) | (go_simp; rfl)); intro gb582 hg w5 hbox hb; have BK582 := sd_ (hbox); have GW582 := sd_ ((by rw [hg]; exact (below_size (bw0_ HB.out)) : w.heap.size ≤ gb582)); have GE582 := sd_ ((by rw [hg]; exact (below_size (bw0_ HB.out)) : w.heap.size ≤ gb582)); replace HB := sd_ (below_step (bw0_ HB.out) hb); clear hb hbox hg) | ((with_reducible refine gate_dst (N := 4) rfl ?_); refine box_event ?hg (N := 4) ?hd (cs := #[.int .i64 a1_0, .slice A1_1 l1_1.length c1_1, .slice A1_2 l1_2.length c1_2, .slice A1_3 l1_3.length c1_3]) (t := 27) ?hr ?_; (case hd => rfl); (case hg => rfl); (case hr => first | (go_simp; done) | (go_simp; rfl)); intro gb583 hg w6 hbox hb; have BK583 := sd_ (hbox); have GW583 := sd_ ((by rw [hg]; exact (below_size (bw1_ HB.out GE582.out)) : w.heap.size ≤ gb583)); have GE583 := sd_ ((by rw [hg]; exact (below_size (bw1_ HB.out GE582.out)) : w.heap.size ≤ gb583)); replace HB := sd_ (below_step (bw1_ HB.out GE582.out) hb); have NB582_583 := sd_ ((by rw [hg]; exact Nat.ne_of_lt (bl_ BK582.out) : gb582 ≠ gb583)); have NB583_582 := sd_ ((by rw [hg]; exact Nat.ne_of_gt (bl_ BK582.out) : gb583 ≠ gb582)); replace BK582 := sd_ (bb_ BK582.out hb); clear hb hbox hg)))
 (try simp only [Act.put, List.setIfInBounds_toArray, List.set_cons_zero, List.set_cons_succ])
 go_cut [22] (fun v22 wc => ∃ (kq : Nat) (x22_3 : Bool), v22 = .bool x22_3 ∧ Aside0 (spec_PartsOfGrade.j0 kq a2 x22_3 a1_0 l1_1 l1_2 l1_3 = some (r1, r2)) ∧ Aside0 (kq ≤ k) ∧ Aside0 (wc.heap[gb582]? = some (.cells #[.int .i64 a0_0, (.slice A0_1 l0_1.length c0_1), (.slice A0_2 l0_2.length c0_2), (.slice A0_3 l0_3.length c0_3)] 27 (0, 0))) ∧ Aside0 (wc.heap[gb583]? = some (.cells #[.int .i64 a1_0, (.slice A1_1 l1_1.length c1_1), (.slice A1_2 l1_2.length c1_2), (.slice A1_3 l1_3.length c1_3)] 27 (0, 0))) ∧ Aside0 (Below w.heap.size w wc))
 case first =>
  have H := HC4.out
  clear HC4
  replace H := Option.bind_eq_some_iff.mp H
  obtain ⟨t584, A70, H⟩ := H
  replace H : (if t584 = true then ((spec_l1In.f a2 0 (wrap64 ((wrap64 (a0_0 * a1_0)) - 1))).bind fun t585 => (spec_PartsOfGrade.j0 k a2 (!t585) a1_0 l1_1 l1_2 l1_3)) else (spec_PartsOfGrade.j0 k a2 true a1_0 l1_1 l1_2 l1_3)) = some (r1, r2) := H
  have A7 := sd_ A70
  clear A70
  by_cases c8 : t584 = true
  ·subst c8
   have H1 : ((spec_l1In.f a2 0 (wrap64 ((wrap64 (a0_0 * a1_0)) - 1))).bind fun t585 => (spec_PartsOfGrade.j0 k a2 (!t585) a1_0 l1_1 l1_2 l1_3)) = some (r1, r2) := by rw [if_pos rfl] at H; exact H
   clear H
   have H := H1
   clear H1
   replace H := Option.bind_eq_some_iff.mp H
   obtain ⟨t585, A90, H⟩ := H
   replace H : (spec_PartsOfGrade.j0 k a2 (!t585) a1_0 l1_1 l1_2 l1_3) = some (r1, r2) := H
   have A9 := sd_ A90
   clear A90
   have H' := sd_ H
   clear H
   have hnb10 := NB582_583.out
   have hnc10 := NB583_582.out
   have hcz11_0 : w6.cell? ⟨gb582, 0, none⟩ = some (.int .i64 a0_0) := (blk_cell BK582.out 0).trans rfl
   have hcz11_1 : w6.cell? ⟨gb582, 1, none⟩ = some (.slice A0_1 l0_1.length c0_1) := (blk_cell BK582.out 1).trans rfl
   have hcz11_2 : w6.cell? ⟨gb582, 2, none⟩ = some (.slice A0_2 l0_2.length c0_2) := (blk_cell BK582.out 2).trans rfl
   have hcz11_3 : w6.cell? ⟨gb582, 3, none⟩ = some (.slice A0_3 l0_3.length c0_3) := (blk_cell BK582.out 3).trans rfl
   have hfz11_0 := blk_frozen BK582.out 0
   have hfz11_1 := blk_frozen BK582.out 1
   have hfz11_2 := blk_frozen BK582.out 2
   have hfz11_3 := blk_frozen BK582.out 3
   have hcz12_0 : w6.cell? ⟨gb583, 0, none⟩ = some (.int .i64 a1_0) := (blk_cell BK583.out 0).trans rfl
   have hcz12_1 : w6.cell? ⟨gb583, 1, none⟩ = some (.slice A1_1 l1_1.length c1_1) := (blk_cell BK583.out 1).trans rfl
   have hcz12_2 : w6.cell? ⟨gb583, 2, none⟩ = some (.slice A1_2 l1_2.length c1_2) := (blk_cell BK583.out 2).trans rfl
   have hcz12_3 : w6.cell? ⟨gb583, 3, none⟩ = some (.slice A1_3 l1_3.length c1_3) := (blk_cell BK583.out 3).trans rfl
   have hfz12_0 := blk_frozen BK583.out 0
   have hfz12_1 := blk_frozen BK583.out 1
   have hfz12_2 := blk_frozen BK583.out 2
   have hfz12_3 := blk_frozen BK583.out 3
   go_wp2_with (first | (go_at_call 79; (with_reducible refine (spec_l1Product.calls k a0_0 _ _ l0_1 _ _ l0_2 _ _ l0_3 a1_0 _ _ l1_1 _ _ l1_2 _ _ l1_3 true _ ?side1 ?side2 ?side3 ?side4 ?side5 ?side6 ?side7 ?side8 ?side9 ?side10 ?side11 ?side12 A7.out).mono ?_); (case side1 => exact kc_ HR0_1.out HB.out); (case side2 => exact HC0_1.out); (case side3 => exact kc_ HR0_2.out HB.out); (case side4 => exact HC0_2.out); (case side5 => exact kc_ HR0_3.out HB.out); (case side6 => exact HC0_3.out); (case side7 => exact kc_ HR1_1.out HB.out); (case side8 => exact HC1_1.out); (case side9 => exact kc_ HR1_2.out HB.out); (case side10 => exact HC1_2.out); (case side11 => exact kc_ HR1_3.out HB.out); (case side12 => exact HC1_3.out); rintro e w13 ⟨rfl, hb⟩; replace BK582 := sd_ (bb_ BK582.out hb); replace BK583 := sd_ (bb_ BK583.out hb); replace HB := sd_ (below_step (bw2_ HB.out GE582.out GE583.out) hb); (try clear hb); (try clear hb2); (try clear hk); (try clear hi); have hcz14_0 : w13.cell? ⟨gb582, 0, none⟩ = some (.int .i64 a0_0) := (blk_cell BK582.out 0).trans rfl; have hcz14_1 : w13.cell? ⟨gb582, 1, none⟩ = some (.slice A0_1 l0_1.length c0_1) := (blk_cell BK582.out 1).trans rfl; have hcz14_2 : w13.cell? ⟨gb582, 2, none⟩ = some (.slice A0_2 l0_2.length c0_2) := (blk_cell BK582.out 2).trans rfl; have hcz14_3 : w13.cell? ⟨gb582, 3, none⟩ = some (.slice A0_3 l0_3.length c0_3) := (blk_cell BK582.out 3).trans rfl; have hfz14_0 := blk_frozen BK582.out 0; have hfz14_1 := blk_frozen BK582.out 1; have hfz14_2 := blk_frozen BK582.out 2; have hfz14_3 := blk_frozen BK582.out 3; have hcz15_0 : w13.cell? ⟨gb583, 0, none⟩ = some (.int .i64 a1_0) := (blk_cell BK583.out 0).trans rfl; have hcz15_1 : w13.cell? ⟨gb583, 1, none⟩ = some (.slice A1_1 l1_1.length c1_1) := (blk_cell BK583.out 1).trans rfl; have hcz15_2 : w13.cell? ⟨gb583, 2, none⟩ = some (.slice A1_2 l1_2.length c1_2) := (blk_cell BK583.out 2).trans rfl; have hcz15_3 : w13.cell? ⟨gb583, 3, none⟩ = some (.slice A1_3 l1_3.length c1_3) := (blk_cell BK583.out 3).trans rfl; have hfz15_0 := blk_frozen BK583.out 0; have hfz15_1 := blk_frozen BK583.out 1; have hfz15_2 := blk_frozen BK583.out 2; have hfz15_3 := blk_frozen BK583.out 3) | (go_at_call 80; (with_reducible refine (spec_l1In.calls a2 0 (wrap64 ((wrap64 (a0_0 * a1_0)) - 1)) t585 _ A9.out).mono ?_); rintro e w' ⟨rfl, ⟨nd, rfl⟩⟩; (try first | exact ⟨rfl, _, World.drewN_drewN _ _ _⟩ | exact ⟨rfl, _, Eq.trans (World.drewN_drewN _ _ _) (congrArg (World.drewN _) (Nat.add_assoc _ _ _))⟩)))
   repeat (go_quiet (first | (go_at_call 79; (with_reducible refine (spec_l1Product.calls k a0_0 _ _ l0_1 _ _ l0_2 _ _ l0_3 a1_0 _ _ l1_1 _ _ l1_2 _ _ l1_3 true _ ?side1 ?side2 ?side3 ?side4 ?side5 ?side6 ?side7 ?side8 ?side9 ?side10 ?side11 ?side12 A7.out).mono ?_); (case side1 => exact kc_ HR0_1.out HB.out); (case side2 => exact HC0_1.out); (case side3 => exact kc_ HR0_2.out HB.out); (case side4 => exact HC0_2.out); (case side5 => exact kc_ HR0_3.out HB.out); (case side6 => exact HC0_3.out); (case side7 => exact kc_ HR1_1.out HB.out); (case side8 => exact HC1_1.out); (case side9 => exact kc_ HR1_2.out HB.out); (case side10 => exact HC1_2.out); (case side11 => exact kc_ HR1_3.out HB.out); (case side12 => exact HC1_3.out); rintro e w13 ⟨rfl, hb⟩; replace BK582 := sd_ (bb_ BK582.out hb); replace BK583 := sd_ (bb_ BK583.out hb); replace HB := sd_ (below_step (bw2_ HB.out GE582.out GE583.out) hb); (try clear hb); (try clear hb2); (try clear hk); (try clear hi); have hcz14_0 : w13.cell? ⟨gb582, 0, none⟩ = some (.int .i64 a0_0) := (blk_cell BK582.out 0).trans rfl; have hcz14_1 : w13.cell? ⟨gb582, 1, none⟩ = some (.slice A0_1 l0_1.length c0_1) := (blk_cell BK582.out 1).trans rfl; have hcz14_2 : w13.cell? ⟨gb582, 2, none⟩ = some (.slice A0_2 l0_2.length c0_2) := (blk_cell BK582.out 2).trans rfl; have hcz14_3 : w13.cell? ⟨gb582, 3, none⟩ = some (.slice A0_3 l0_3.length c0_3) := (blk_cell BK582.out 3).trans rfl; have hfz14_0 := blk_frozen BK582.out 0; have hfz14_1 := blk_frozen BK582.out 1; have hfz14_2 := blk_frozen BK582.out 2; have hfz14_3 := blk_frozen BK582.out 3; have hcz15_0 : w13.cell? ⟨gb583, 0, none⟩ = some (.int .i64 a1_0) := (blk_cell BK583.out 0).trans rfl; have hcz15_1 : w13.cell? ⟨gb583, 1, none⟩ = some (.slice A1_1 l1_1.length c1_1) := (blk_cell BK583.out 1).trans rfl; have hcz15_2 : w13.cell? ⟨gb583, 2, none⟩ = some (.slice A1_2 l1_2.length c1_2) := (blk_cell BK583.out 2).trans rfl; have hcz15_3 : w13.cell? ⟨gb583, 3, none⟩ = some (.slice A1_3 l1_3.length c1_3) := (blk_cell BK583.out 3).trans rfl; have hfz15_0 := blk_frozen BK583.out 0; have hfz15_1 := blk_frozen BK583.out 1; have hfz15_2 := blk_frozen BK583.out 2; have hfz15_3 := blk_frozen BK583.out 3) | (go_at_call 80; (with_reducible refine (spec_l1In.calls a2 0 (wrap64 ((wrap64 (a0_0 * a1_0)) - 1)) t585 _ A9.out).mono ?_); rintro e w' ⟨rfl, ⟨nd, rfl⟩⟩; (try first | exact ⟨rfl, _, World.drewN_drewN _ _ _⟩ | exact ⟨rfl, _, Eq.trans (World.drewN_drewN _ _ _) (congrArg (World.drewN _) (Nat.add_assoc _ _ _))⟩))); try go_wp2_with (first | (go_at_call 79; (with_reducible refine (spec_l1Product.calls k a0_0 _ _ l0_1 _ _ l0_2 _ _ l0_3 a1_0 _ _ l1_1 _ _ l1_2 _ _ l1_3 true _ ?side1 ?side2 ?side3 ?side4 ?side5 ?side6 ?side7 ?side8 ?side9 ?side10 ?side11 ?side12 A7.out).mono ?_); (case side1 => exact kc_ HR0_1.out HB.out); (case side2 => exact HC0_1.out); (case side3 => exact kc_ HR0_2.out HB.out); (case side4 => exact HC0_2.out); (case side5 => exact kc_ HR0_3.out HB.out); (case side6 => exact HC0_3.out); (case side7 => exact kc_ HR1_1.out HB.out); (case side8 => exact HC1_1.out); (case side9 => exact kc_ HR1_2.out HB.out); (case side10 => exact HC1_2.out); (case side11 => exact kc_ HR1_3.out HB.out); (case side12 => exact HC1_3.out); rintro e w13 ⟨rfl, hb⟩; replace BK582 := sd_ (bb_ BK582.out hb); replace BK583 := sd_ (bb_ BK583.out hb); replace HB := sd_ (below_step (bw2_ HB.out GE582.out GE583.out) hb); (try clear hb); (try clear hb2); (try clear hk); (try clear hi); have hcz14_0 : w13.cell? ⟨gb582, 0, none⟩ = some (.int .i64 a0_0) := (blk_cell BK582.out 0).trans rfl; have hcz14_1 : w13.cell? ⟨gb582, 1, none⟩ = some (.slice A0_1 l0_1.length c0_1) := (blk_cell BK582.out 1).trans rfl; have hcz14_2 : w13.cell? ⟨gb582, 2, none⟩ = some (.slice A0_2 l0_2.length c0_2) := (blk_cell BK582.out 2).trans rfl; have hcz14_3 : w13.cell? ⟨gb582, 3, none⟩ = some (.slice A0_3 l0_3.length c0_3) := (blk_cell BK582.out 3).trans rfl; have hfz14_0 := blk_frozen BK582.out 0; have hfz14_1 := blk_frozen BK582.out 1; have hfz14_2 := blk_frozen BK582.out 2; have hfz14_3 := blk_frozen BK582.out 3; have hcz15_0 : w13.cell? ⟨gb583, 0, none⟩ = some (.int .i64 a1_0) := (blk_cell BK583.out 0).trans rfl; have hcz15_1 : w13.cell? ⟨gb583, 1, none⟩ = some (.slice A1_1 l1_1.length c1_1) := (blk_cell BK583.out 1).trans rfl; have hcz15_2 : w13.cell? ⟨gb583, 2, none⟩ = some (.slice A1_2 l1_2.length c1_2) := (blk_cell BK583.out 2).trans rfl; have hcz15_3 : w13.cell? ⟨gb583, 3, none⟩ = some (.slice A1_3 l1_3.length c1_3) := (blk_cell BK583.out 3).trans rfl; have hfz15_0 := blk_frozen BK583.out 0; have hfz15_1 := blk_frozen BK583.out 1; have hfz15_2 := blk_frozen BK583.out 2; have hfz15_3 := blk_frozen BK583.out 3) | (go_at_call 80; (with_reducible refine (spec_l1In.calls a2 0 (wrap64 ((wrap64 (a0_0 * a1_0)) - 1)) t585 _ A9.out).mono ?_); rintro e w' ⟨rfl, ⟨nd, rfl⟩⟩; (try first | exact ⟨rfl, _, World.drewN_drewN _ _ _⟩ | exact ⟨rfl, _, Eq.trans (World.drewN_drewN _ _ _) (congrArg (World.drewN _) (Nat.add_assoc _ _ _))⟩))))
   go_meet
   case rel => exact ⟨_, (!t585), (by first | rfl | (simp; done) | (simp [*]; done)), H', ⟨by first | omega | exact Nat.le_refl _⟩, ⟨by (with_reducible repeat (first | refine blk_drewN ?_ _ | refine blk_drew ?_ | refine blk_alloc ?_ _)); exact BK582.out⟩, ⟨by (with_reducible repeat (first | refine blk_drewN ?_ _ | refine blk_drew ?_ | refine blk_alloc ?_ _)); exact BK583.out⟩, ⟨bw2_ HB.out GE582.out GE583.out⟩⟩
  ·replace c8 := Bool.eq_false_iff.mpr c8
   subst c8
   have H1 : (spec_PartsOfGrade.j0 k a2 true a1_0 l1_1 l1_2 l1_3) = some (r1, r2) := by rw [if_neg (show ¬ (false = true) by decide)] at H; exact H
   clear H
   have H := H1
   clear H1
   have H' := sd_ H
   clear H
   have hnb16 := NB582_583.out
   have hnc16 := NB583_582.out
   have hcz17_0 : w6.cell? ⟨gb582, 0, none⟩ = some (.int .i64 a0_0) := (blk_cell BK582.out 0).trans rfl
   have hcz17_1 : w6.cell? ⟨gb582, 1, none⟩ = some (.slice A0_1 l0_1.length c0_1) := (blk_cell BK582.out 1).trans rfl
   have hcz17_2 : w6.cell? ⟨gb582, 2, none⟩ = some (.slice A0_2 l0_2.length c0_2) := (blk_cell BK582.out 2).trans rfl
   have hcz17_3 : w6.cell? ⟨gb582, 3, none⟩ = some (.slice A0_3 l0_3.length c0_3) := (blk_cell BK582.out 3).trans rfl
   have hfz17_0 := blk_frozen BK582.out 0
   have hfz17_1 := blk_frozen BK582.out 1
   have hfz17_2 := blk_frozen BK582.out 2
   have hfz17_3 := blk_frozen BK582.out 3
   have hcz18_0 : w6.cell? ⟨gb583, 0, none⟩ = some (.int .i64 a1_0) := (blk_cell BK583.out 0).trans rfl
   have hcz18_1 : w6.cell? ⟨gb583, 1, none⟩ = some (.slice A1_1 l1_1.length c1_1) := (blk_cell BK583.out 1).trans rfl
   have hcz18_2 : w6.cell? ⟨gb583, 2, none⟩ = some (.slice A1_2 l1_2.length c1_2) := (blk_cell BK583.out 2).trans rfl
   have hcz18_3 : w6.cell? ⟨gb583, 3, none⟩ = some (.slice A1_3 l1_3.length c1_3) := (blk_cell BK583.out 3).trans rfl
   have hfz18_0 := blk_frozen BK583.out 0
   have hfz18_1 := blk_frozen BK583.out 1
   have hfz18_2 := blk_frozen BK583.out 2
   have hfz18_3 := blk_frozen BK583.out 3
   go_wp2_with (first | (go_at_call 79; (with_reducible refine (spec_l1Product.calls k a0_0 _ _ l0_1 _ _ l0_2 _ _ l0_3 a1_0 _ _ l1_1 _ _ l1_2 _ _ l1_3 false _ ?side1 ?side2 ?side3 ?side4 ?side5 ?side6 ?side7 ?side8 ?side9 ?side10 ?side11 ?side12 A7.out).mono ?_); (case side1 => exact kc_ HR0_1.out HB.out); (case side2 => exact HC0_1.out); (case side3 => exact kc_ HR0_2.out HB.out); (case side4 => exact HC0_2.out); (case side5 => exact kc_ HR0_3.out HB.out); (case side6 => exact HC0_3.out); (case side7 => exact kc_ HR1_1.out HB.out); (case side8 => exact HC1_1.out); (case side9 => exact kc_ HR1_2.out HB.out); (case side10 => exact HC1_2.out); (case side11 => exact kc_ HR1_3.out HB.out); (case side12 => exact HC1_3.out); rintro e w19 ⟨rfl, hb⟩; replace BK582 := sd_ (bb_ BK582.out hb); replace BK583 := sd_ (bb_ BK583.out hb); replace HB := sd_ (below_step (bw2_ HB.out GE582.out GE583.out) hb); (try clear hb); (try clear hb2); (try clear hk); (try clear hi)))
   repeat (go_quiet (first | (go_at_call 79; (with_reducible refine (spec_l1Product.calls k a0_0 _ _ l0_1 _ _ l0_2 _ _ l0_3 a1_0 _ _ l1_1 _ _ l1_2 _ _ l1_3 false _ ?side1 ?side2 ?side3 ?side4 ?side5 ?side6 ?side7 ?side8 ?side9 ?side10 ?side11 ?side12 A7.out).mono ?_); (case side1 => exact kc_ HR0_1.out HB.out); (case side2 => exact HC0_1.out); (case side3 => exact kc_ HR0_2.out HB.out); (case side4 => exact HC0_2.out); (case side5 => exact kc_ HR0_3.out HB.out); (case side6 => exact HC0_3.out); (case side7 => exact kc_ HR1_1.out HB.out); (case side8 => exact HC1_1.out); (case side9 => exact kc_ HR1_2.out HB.out); (case side10 => exact HC1_2.out); (case side11 => exact kc_ HR1_3.out HB.out); (case side12 => exact HC1_3.out); rintro e w19 ⟨rfl, hb⟩; replace BK582 := sd_ (bb_ BK582.out hb); replace BK583 := sd_ (bb_ BK583.out hb); replace HB := sd_ (below_step (bw2_ HB.out GE582.out GE583.out) hb); (try clear hb); (try clear hb2); (try clear hk); (try clear hi))); try go_wp2_with (first | (go_at_call 79; (with_reducible refine (spec_l1Product.calls k a0_0 _ _ l0_1 _ _ l0_2 _ _ l0_3 a1_0 _ _ l1_1 _ _ l1_2 _ _ l1_3 false _ ?side1 ?side2 ?side3 ?side4 ?side5 ?side6 ?side7 ?side8 ?side9 ?side10 ?side11 ?side12 A7.out).mono ?_); (case side1 => exact kc_ HR0_1.out HB.out); (case side2 => exact HC0_1.out); (case side3 => exact kc_ HR0_2.out HB.out); (case side4 => exact HC0_2.out); (case side5 => exact kc_ HR0_3.out HB.out); (case side6 => exact HC0_3.out); (case side7 => exact kc_ HR1_1.out HB.out); (case side8 => exact HC1_1.out); (case side9 => exact kc_ HR1_2.out HB.out); (case side10 => exact HC1_2.out); (case side11 => exact kc_ HR1_3.out HB.out); (case side12 => exact HC1_3.out); rintro e w19 ⟨rfl, hb⟩; replace BK582 := sd_ (bb_ BK582.out hb); replace BK583 := sd_ (bb_ BK583.out hb); replace HB := sd_ (below_step (bw2_ HB.out GE582.out GE583.out) hb); (try clear hb); (try clear hb2); (try clear hk); (try clear hi))))
   go_meet
   case rel => exact ⟨_, (true), (by first | rfl | (simp; done) | (simp [*]; done)), H', ⟨by first | omega | exact Nat.le_refl _⟩, ⟨by (with_reducible repeat (first | refine blk_drewN ?_ _ | refine blk_drew ?_ | refine blk_alloc ?_ _)); exact BK582.out⟩, ⟨by (with_reducible repeat (first | refine blk_drewN ?_ _ | refine blk_drew ?_ | refine blk_alloc ?_ _)); exact BK583.out⟩, ⟨bw2_ HB.out GE582.out GE583.out⟩⟩
 case rest =>
  clear HC4
  try clear c1
  try clear c2
  try clear p6
  obtain ⟨kq, x22_3, rfl, HA, HJ3, BK582, BK583, HB⟩ := hcut
  cases kq with
  | zero => exact absurd HA.out (by simp [spec_PartsOfGrade.j0])
  | succ kj3 =>
   have H := HA.out
   clear HA
   simp only [spec_PartsOfGrade.j0] at H
   by_cases c20 : x22_3 = true
   ·subst c20
    have H1 : (some ((-1), (-1))) = some (r1, r2) := by rw [if_pos rfl] at H; exact H
    clear H
    have H := H1
    clear H1
    simp only [Option.some.injEq, Prod.mk.injEq] at H
    obtain ⟨rfl, rfl⟩ := H
    go_wp2
    repeat (go_quiet (fail); try go_wp2)
    go_ret2
    exact ⟨by first | rfl | (simp [errW_none, errW_some] <;> rfl) | (simp [*, errW_none, errW_some] <;> rfl), bw2_ HB.out GE582.out GE583.out⟩
   ·replace c20 := Bool.eq_false_iff.mpr c20
    subst c20
    have H1 : ((spec_l1First.f a1_0 a2).bind fun t586 => ((spec_l1Second.f a1_0 a2).bind fun t587 => (some (t586, t587)))) = some (r1, r2) := by rw [if_neg (show ¬ (false = true) by decide)] at H; exact H
    clear H
    have H := H1
    clear H1
    replace H := Option.bind_eq_some_iff.mp H
    obtain ⟨t586, A210, H⟩ := H
    replace H : ((spec_l1Second.f a1_0 a2).bind fun t587 => (some (t586, t587))) = some (r1, r2) := H
    have A21 := sd_ A210
    clear A210
    replace H := Option.bind_eq_some_iff.mp H
    obtain ⟨t587, A220, H⟩ := H
    replace H : (some (t586, t587)) = some (r1, r2) := H
    have A22 := sd_ A220
    clear A220
    simp only [Option.some.injEq, Prod.mk.injEq] at H
    obtain ⟨rfl, rfl⟩ := H
    have hnb23 := NB583_582.out
    have hnc23 := NB582_583.out
    have hcz24_0 : wc.cell? ⟨gb583, 0, none⟩ = some (.int .i64 a1_0) := (blk_cell BK583.out 0).trans rfl
    have hcz24_1 : wc.cell? ⟨gb583, 1, none⟩ = some (.slice A1_1 l1_1.length c1_1) := (blk_cell BK583.out 1).trans rfl
    have hcz24_2 : wc.cell? ⟨gb583, 2, none⟩ = some (.slice A1_2 l1_2.length c1_2) := (blk_cell BK583.out 2).trans rfl
    have hcz24_3 : wc.cell? ⟨gb583, 3, none⟩ = some (.slice A1_3 l1_3.length c1_3) := (blk_cell BK583.out 3).trans rfl
    have hfz24_0 := blk_frozen BK583.out 0
    have hfz24_1 := blk_frozen BK583.out 1
    have hfz24_2 := blk_frozen BK583.out 2
    have hfz24_3 := blk_frozen BK583.out 3
    go_wp2_with (first | (go_at_call 86; (with_reducible refine (spec_l1First.calls a1_0 a2 t586 _ A21.out).mono ?_); rintro e w' ⟨rfl, ⟨nd, rfl⟩⟩; (try first | exact ⟨rfl, _, World.drewN_drewN _ _ _⟩ | exact ⟨rfl, _, Eq.trans (World.drewN_drewN _ _ _) (congrArg (World.drewN _) (Nat.add_assoc _ _ _))⟩)) | (go_at_call 87; (with_reducible refine (spec_l1Second.calls a1_0 a2 t587 _ A22.out).mono ?_); rintro e w' ⟨rfl, ⟨nd, rfl⟩⟩; (try first | exact ⟨rfl, _, World.drewN_drewN _ _ _⟩ | exact ⟨rfl, _, Eq.trans (World.drewN_drewN _ _ _) (congrArg (World.drewN _) (Nat.add_assoc _ _ _))⟩)))
    repeat (go_quiet (first | (go_at_call 86; (with_reducible refine (spec_l1First.calls a1_0 a2 t586 _ A21.out).mono ?_); rintro e w' ⟨rfl, ⟨nd, rfl⟩⟩; (try first | exact ⟨rfl, _, World.drewN_drewN _ _ _⟩ | exact ⟨rfl, _, Eq.trans (World.drewN_drewN _ _ _) (congrArg (World.drewN _) (Nat.add_assoc _ _ _))⟩)) | (go_at_call 87; (with_reducible refine (spec_l1Second.calls a1_0 a2 t587 _ A22.out).mono ?_); rintro e w' ⟨rfl, ⟨nd, rfl⟩⟩; (try first | exact ⟨rfl, _, World.drewN_drewN _ _ _⟩ | exact ⟨rfl, _, Eq.trans (World.drewN_drewN _ _ _) (congrArg (World.drewN _) (Nat.add_assoc _ _ _))⟩))); try go_wp2_with (first | (go_at_call 86; (with_reducible refine (spec_l1First.calls a1_0 a2 t586 _ A21.out).mono ?_); rintro e w' ⟨rfl, ⟨nd, rfl⟩⟩; (try first | exact ⟨rfl, _, World.drewN_drewN _ _ _⟩ | exact ⟨rfl, _, Eq.trans (World.drewN_drewN _ _ _) (congrArg (World.drewN _) (Nat.add_assoc _ _ _))⟩)) | (go_at_call 87; (with_reducible refine (spec_l1Second.calls a1_0 a2 t587 _ A22.out).mono ?_); rintro e w' ⟨rfl, ⟨nd, rfl⟩⟩; (try first | exact ⟨rfl, _, World.drewN_drewN _ _ _⟩ | exact ⟨rfl, _, Eq.trans (World.drewN_drewN _ _ _) (congrArg (World.drewN _) (Nat.add_assoc _ _ _))⟩))))
    go_ret2
    exact ⟨by first | rfl | (simp [errW_none, errW_some] <;> rfl) | (simp [*, errW_none, errW_some] <;> rfl), bw2_ HB.out GE582.out GE583.out⟩

end Go.Proofs.Ytcdmnofomoadlaa.P
