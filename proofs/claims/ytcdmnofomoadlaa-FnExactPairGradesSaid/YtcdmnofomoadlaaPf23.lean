-- Printed by this session's own program (wip/tools/mkprint.py) out of the translation. Not trusted: Lean checks it.
import Derived.Test.YtcdmnofomoadlaaP0
import Derived.Test.YtcdmnofomoadlaaPf79
import Derived.Test.YtcdmnofomoadlaaPf80
import Derived.Test.YtcdmnofomoadlaaPf81
/-! short words -/
namespace Go.Proofs.Ytcdmnofomoadlaa.P
open Go.RowKit Go.Proofs.YtcdmnofomoadlaaW.PrintWords Go.Proofs.YtcdmnofomoadlaaW.PrintLast Go.Proofs.YtcdmnofomoadlaaW.PrintMore
attribute [local go_sem] max2_int min2_int max_two min_two max_three min_three max_four min_four   -- for this text's walks alone
set_option linter.unusedVariables false
set_option linter.unusedSimpArgs false

/-! ### spec_PairGrades: function 23 -/
def spec_PairGrades.f (k : Nat) (a0_0 : Int) (l0_1 : List Int) (l0_2 : List Int) (l0_3 : List Bool) (a1_0 : Int) (l1_1 : List Int) (l1_2 : List Int) (l1_3 : List Bool) (a2 : Int) (a3 : Int) : Option (Int) := (spec_l1Product.f k a0_0 l0_1 l0_2 l0_3 a1_0 l1_1 l1_2 l1_3).bind fun t477 => (if t477 = true then ((spec_l1In.f a2 0 (wrap64 (a0_0 - 1))).bind fun t478 => (if t478 = true then ((spec_l1In.f a3 0 (wrap64 (a1_0 - 1))).bind fun t479 => (if t479 = true then ((spec_l1Pair.f a1_0 a2 a3).bind fun t480 => (some t480)) else (some (-1)))) else (some (-1)))) else (some (-1)))
set_option maxHeartbeats 8000000 in
set_option maxRecDepth 100000 in
theorem spec_PairGrades.calls (k : Nat) (a0_0 : Int) (A0_1 : Option Addr) (c0_1 : Nat) (l0_1 : List Int) (A0_2 : Option Addr) (c0_2 : Nat) (l0_2 : List Int) (A0_3 : Option Addr) (c0_3 : Nat) (l0_3 : List Bool) (a1_0 : Int) (A1_1 : Option Addr) (c1_1 : Nat) (l1_1 : List Int) (A1_2 : Option Addr) (c1_2 : Nat) (l1_2 : List Int) (A1_3 : Option Addr) (c1_3 : Nat) (l1_3 : List Bool) (a2 : Int) (a3 : Int) (r : Int) (w : World) (hr0_1 : Kd.C (Kd.int .i64) w A0_1 l0_1.length l0_1) (hc0_1 : l0_1.length ≤ c0_1) (hr0_2 : Kd.C (Kd.int .i64) w A0_2 l0_2.length l0_2) (hc0_2 : l0_2.length ≤ c0_2) (hr0_3 : Kd.C Kd.bool w A0_3 l0_3.length l0_3) (hc0_3 : l0_3.length ≤ c0_3) (hr1_1 : Kd.C (Kd.int .i64) w A1_1 l1_1.length l1_1) (hc1_1 : l1_1.length ≤ c1_1) (hr1_2 : Kd.C (Kd.int .i64) w A1_2 l1_2.length l1_2) (hc1_2 : l1_2.length ≤ c1_2) (hr1_3 : Kd.C Kd.bool w A1_3 l1_3.length l1_3) (hc1_3 : l1_3.length ≤ c1_3) (h : spec_PairGrades.f k a0_0 l0_1 l0_2 l0_3 a1_0 l1_1 l1_2 l1_3 a2 a3 = some r) :
  Calls Try.prog 23 #[.agg #[.int .i64 a0_0, .slice A0_1 l0_1.length c0_1, .slice A0_2 l0_2.length c0_2, .slice A0_3 l0_3.length c0_3], .agg #[.int .i64 a1_0, .slice A1_1 l1_1.length c1_1, .slice A1_2 l1_2.length c1_2, .slice A1_3 l1_3.length c1_3], .int .i64 a2, .int .i64 a3] w fun e w' => e = .returned (.int .i64 r) ∧ Below w.heap.size w w' := by
 have hu27 := Try.underlying27
 have HR0_1 := sd_ hr0_1
 have HC0_1 := sd_ hc0_1
 clear hr0_1 hc0_1
 have HR0_2 := sd_ hr0_2
 have HC0_2 := sd_ hc0_2
 clear hr0_2 hc0_2
 have HR0_3 := sd_ hr0_3
 have HC0_3 := sd_ hc0_3
 clear hr0_3 hc0_3
 have HR1_1 := sd_ hr1_1
 have HC1_1 := sd_ hc1_1
 clear hr1_1 hc1_1
 have HR1_2 := sd_ hr1_2
 have HC1_2 := sd_ hc1_2
 clear hr1_2 hc1_2
 have HR1_3 := sd_ hr1_3
 have HC1_3 := sd_ hc1_3
 clear hr1_3 hc1_3
 have HB := sd_ (Below.refl w.heap.size w)
 have H : ((spec_l1Product.f k a0_0 l0_1 l0_2 l0_3 a1_0 l1_1 l1_2 l1_3).bind fun t477 => (if t477 = true then ((spec_l1In.f a2 0 (wrap64 (a0_0 - 1))).bind fun t478 => (if t478 = true then ((spec_l1In.f a3 0 (wrap64 (a1_0 - 1))).bind fun t479 => (if t479 = true then ((spec_l1Pair.f a1_0 a2 a3).bind fun t480 => (some t480)) else (some (-1)))) else (some (-1)))) else (some (-1)))) = some r := h
 clear h
 replace H := Option.bind_eq_some_iff.mp H
 obtain ⟨t477, A50, H⟩ := H
 replace H : (if t477 = true then ((spec_l1In.f a2 0 (wrap64 (a0_0 - 1))).bind fun t478 => (if t478 = true then ((spec_l1In.f a3 0 (wrap64 (a1_0 - 1))).bind fun t479 => (if t479 = true then ((spec_l1Pair.f a1_0 a2 a3).bind fun t480 => (some t480)) else (some (-1)))) else (some (-1)))) else (some (-1))) = some r := H
 have A5 := sd_ A50
 clear A50
 by_cases c6 : t477 = true
 ·subst c6
  have H1 : ((spec_l1In.f a2 0 (wrap64 (a0_0 - 1))).bind fun t478 => (if t478 = true then ((spec_l1In.f a3 0 (wrap64 (a1_0 - 1))).bind fun t479 => (if t479 = true then ((spec_l1Pair.f a1_0 a2 a3).bind fun t480 => (some t480)) else (some (-1)))) else (some (-1)))) = some r := by rw [if_pos rfl] at H; exact H
  clear H
  have H := H1
  clear H1
  replace H := Option.bind_eq_some_iff.mp H
  obtain ⟨t478, A70, H⟩ := H
  replace H : (if t478 = true then ((spec_l1In.f a3 0 (wrap64 (a1_0 - 1))).bind fun t479 => (if t479 = true then ((spec_l1Pair.f a1_0 a2 a3).bind fun t480 => (some t480)) else (some (-1)))) else (some (-1))) = some r := H
  have A7 := sd_ A70
  clear A70
  by_cases c8 : t478 = true
  ·subst c8
   have H1 : ((spec_l1In.f a3 0 (wrap64 (a1_0 - 1))).bind fun t479 => (if t479 = true then ((spec_l1Pair.f a1_0 a2 a3).bind fun t480 => (some t480)) else (some (-1)))) = some r := by rw [if_pos rfl] at H; exact H
   clear H
   have H := H1
   clear H1
   replace H := Option.bind_eq_some_iff.mp H
   obtain ⟨t479, A90, H⟩ := H
   replace H : (if t479 = true then ((spec_l1Pair.f a1_0 a2 a3).bind fun t480 => (some t480)) else (some (-1))) = some r := H
   have A9 := sd_ A90
   clear A90
   have HP10 := sd_ H
   clear H
   go_enter Try.func23, Try.ntmps23
   go_upto_if 28 with (first | ((with_reducible refine gate_dst (N := 4) rfl ?_); refine box_event ?hg (N := 4) ?hd (cs := #[.int .i64 a0_0, .slice A0_1 l0_1.length c0_1, .slice A0_2 l0_2.length c0_2, .slice A0_3 l0_3.length c0_3]) (t := 27) ?hr ?_; (case hd => rfl); (case hg => rfl); (case hr => first | (go_simp; done) | (go_simp; rfl)); intro gb475 hg w11 hbox hb; have BK475 := sd_ (hbox); have GW475 := sd_ ((by rw [hg]; exact (below_size (bw0_ HB.out)) : w.heap.size ≤ gb475)); have GE475 := sd_ ((by rw [hg]; exact (below_size (bw0_ HB.out)) : w.heap.size ≤ gb475)); replace HB := sd_ (below_step (bw0_ HB.out) hb); clear hb hbox hg) | ((with_reducible refine gate_dst (N := 5) rfl ?_); refine box_event ?hg (N := 5) ?hd (cs := #[.int .i64 a1_0, .slice A1_1 l1_1.length c1_1, .slice A1_2 l1_2.length c1_2, .slice A1_3 l1_3.length c1_3]) (t := 27) ?hr ?_; (case hd => rfl); (case hg => rfl); (case hr => first | (go_simp; done) | (go_simp; rfl)); intro gb476 hg w12 hbox hb; have BK476 := sd_ (hbox); have GW476 := sd_ ((by rw [hg]; exact (below_size (bw1_ HB.out GE475.out)) : w.heap.size ≤ gb476)); have GE476 := sd_ ((by rw [hg]; exact (below_size (bw1_ HB.out GE475.out)) : w.heap.size ≤ gb476)); replace HB := sd_ (below_step (bw1_ HB.out GE475.out) hb); have NB475_476 := sd_ ((by rw [hg]; exact Nat.ne_of_lt (bl_ BK475.out) : gb475 ≠ gb476)); have NB476_475 := sd_ ((by rw [hg]; exact Nat.ne_of_gt (bl_ BK475.out) : gb476 ≠ gb475)); replace BK475 := sd_ (bb_ BK475.out hb); clear hb hbox hg; have hnb13 := NB475_476.out; have hnc13 := NB476_475.out; have hcz14_0 : w12.cell? ⟨gb475, 0, none⟩ = some (.int .i64 a0_0) := (blk_cell BK475.out 0).trans rfl; have hcz14_1 : w12.cell? ⟨gb475, 1, none⟩ = some (.slice A0_1 l0_1.length c0_1) := (blk_cell BK475.out 1).trans rfl; have hcz14_2 : w12.cell? ⟨gb475, 2, none⟩ = some (.slice A0_2 l0_2.length c0_2) := (blk_cell BK475.out 2).trans rfl; have hcz14_3 : w12.cell? ⟨gb475, 3, none⟩ = some (.slice A0_3 l0_3.length c0_3) := (blk_cell BK475.out 3).trans rfl; have hfz14_0 := blk_frozen BK475.out 0; have hfz14_1 := blk_frozen BK475.out 1; have hfz14_2 := blk_frozen BK475.out 2; have hfz14_3 := blk_frozen BK475.out 3; have hcz15_0 : w12.cell? ⟨gb476, 0, none⟩ = some (.int .i64 a1_0) := (blk_cell BK476.out 0).trans rfl; have hcz15_1 : w12.cell? ⟨gb476, 1, none⟩ = some (.slice A1_1 l1_1.length c1_1) := (blk_cell BK476.out 1).trans rfl; have hcz15_2 : w12.cell? ⟨gb476, 2, none⟩ = some (.slice A1_2 l1_2.length c1_2) := (blk_cell BK476.out 2).trans rfl; have hcz15_3 : w12.cell? ⟨gb476, 3, none⟩ = some (.slice A1_3 l1_3.length c1_3) := (blk_cell BK476.out 3).trans rfl; have hfz15_0 := blk_frozen BK476.out 0; have hfz15_1 := blk_frozen BK476.out 1; have hfz15_2 := blk_frozen BK476.out 2; have hfz15_3 := blk_frozen BK476.out 3) | ((with_reducible refine gate_callee (f := 79) rfl ?_); refine goesL_ (some 11) rfl rfl Try.func79 (by kernel_rfl) rfl #[.agg #[.int .i64 a0_0, .slice A0_1 l0_1.length c0_1, .slice A0_2 l0_2.length c0_2, .slice A0_3 l0_3.length c0_3], .agg #[.int .i64 a1_0, .slice A1_1 l1_1.length c1_1, .slice A1_2 l1_2.length c1_2, .slice A1_3 l1_3.length c1_3]] rfl (by (try simp only [List.map_toArray, List.map_cons, List.map_nil]); first | done | rfl | (simp only [List.length_drop, List.length_take]; rfl)) ?_; (with_reducible refine (spec_l1Product.calls k a0_0 _ _ l0_1 _ _ l0_2 _ _ l0_3 a1_0 _ _ l1_1 _ _ l1_2 _ _ l1_3 true _ ?side1 ?side2 ?side3 ?side4 ?side5 ?side6 ?side7 ?side8 ?side9 ?side10 ?side11 ?side12 A5.out).mono ?_); (case side1 => exact kc_ HR0_1.out HB.out); (case side2 => exact HC0_1.out); (case side3 => exact kc_ HR0_2.out HB.out); (case side4 => exact HC0_2.out); (case side5 => exact kc_ HR0_3.out HB.out); (case side6 => exact HC0_3.out); (case side7 => exact kc_ HR1_1.out HB.out); (case side8 => exact HC1_1.out); (case side9 => exact kc_ HR1_2.out HB.out); (case side10 => exact HC1_2.out); (case side11 => exact kc_ HR1_3.out HB.out); (case side12 => exact HC1_3.out); rintro e w16 ⟨rfl, hb⟩; refine ⟨_, rfl, ?_⟩; replace BK475 := sd_ (bb_ BK475.out hb); replace BK476 := sd_ (bb_ BK476.out hb); replace HB := sd_ (below_step (bw2_ HB.out GE475.out GE476.out) hb); (try clear hb); (try clear hb2); (try clear hk); (try clear hi); have hcz17_0 : w16.cell? ⟨gb475, 0, none⟩ = some (.int .i64 a0_0) := (blk_cell BK475.out 0).trans rfl; have hcz17_1 : w16.cell? ⟨gb475, 1, none⟩ = some (.slice A0_1 l0_1.length c0_1) := (blk_cell BK475.out 1).trans rfl; have hcz17_2 : w16.cell? ⟨gb475, 2, none⟩ = some (.slice A0_2 l0_2.length c0_2) := (blk_cell BK475.out 2).trans rfl; have hcz17_3 : w16.cell? ⟨gb475, 3, none⟩ = some (.slice A0_3 l0_3.length c0_3) := (blk_cell BK475.out 3).trans rfl; have hfz17_0 := blk_frozen BK475.out 0; have hfz17_1 := blk_frozen BK475.out 1; have hfz17_2 := blk_frozen BK475.out 2; have hfz17_3 := blk_frozen BK475.out 3) | (go_at_call 80; (with_reducible refine (spec_l1In.calls a2 0 (wrap64 (a0_0 - 1)) true _ A7.out).mono ?_); rintro e w' ⟨rfl, ⟨nd, rfl⟩⟩; have hcz18_0 : w16.cell? ⟨gb476, 0, none⟩ = some (.int .i64 a1_0) := (blk_cell BK476.out 0).trans rfl; have hcz18_1 : w16.cell? ⟨gb476, 1, none⟩ = some (.slice A1_1 l1_1.length c1_1) := (blk_cell BK476.out 1).trans rfl; have hcz18_2 : w16.cell? ⟨gb476, 2, none⟩ = some (.slice A1_2 l1_2.length c1_2) := (blk_cell BK476.out 2).trans rfl; have hcz18_3 : w16.cell? ⟨gb476, 3, none⟩ = some (.slice A1_3 l1_3.length c1_3) := (blk_cell BK476.out 3).trans rfl; have hfz18_0 := blk_frozen BK476.out 0; have hfz18_1 := blk_frozen BK476.out 1; have hfz18_2 := blk_frozen BK476.out 2; have hfz18_3 := blk_frozen BK476.out 3) | (go_at_call 80; (with_reducible refine (spec_l1In.calls a3 0 (wrap64 (a1_0 - 1)) t479 _ A9.out).mono ?_); rintro e w' ⟨rfl, ⟨nd, rfl⟩⟩))
   have H := HP10.out
   clear HP10
   by_cases c19 : t479 = true
   ·subst c19
    have H1 : ((spec_l1Pair.f a1_0 a2 a3).bind fun t480 => (some t480)) = some r := by rw [if_pos rfl] at H; exact H
    clear H
    have H := H1
    clear H1
    replace H := Option.bind_eq_some_iff.mp H
    obtain ⟨t480, A200, H⟩ := H
    replace H : (some t480) = some r := H
    have A20 := sd_ A200
    clear A200
    obtain rfl := Option.some.inj H
    have hnb21 := NB476_475.out
    have hnc21 := NB475_476.out
    have hcz22_0 : w16.cell? ⟨gb476, 0, none⟩ = some (.int .i64 a1_0) := (blk_cell BK476.out 0).trans rfl
    have hcz22_1 : w16.cell? ⟨gb476, 1, none⟩ = some (.slice A1_1 l1_1.length c1_1) := (blk_cell BK476.out 1).trans rfl
    have hcz22_2 : w16.cell? ⟨gb476, 2, none⟩ = some (.slice A1_2 l1_2.length c1_2) := (blk_cell BK476.out 2).trans rfl
    have hcz22_3 : w16.cell? ⟨gb476, 3, none⟩ = some (.slice A1_3 l1_3.length c1_3) := (blk_cell BK476.out 3).trans rfl
    have hfz22_0 := blk_frozen BK476.out 0
    have hfz22_1 := blk_frozen BK476.out 1
    have hfz22_2 := blk_frozen BK476.out 2
    have hfz22_3 := blk_frozen BK476.out 3
    go_wp2_with (first | ((with_reducible refine gate_callee (f := 81) rfl ?_); refine goesL_ (some 33) rfl rfl Try.func81 (by kernel_rfl) rfl #[.int .i64 a1_0, .int .i64 a2, .int .i64 a3] rfl (by (try simp only [List.map_toArray, List.map_cons, List.map_nil]); first | done | rfl | (simp only [List.length_drop, List.length_take]; rfl)) ?_; (with_reducible refine (spec_l1Pair.calls a1_0 a2 a3 t480 _ A20.out).mono ?_); rintro e w' ⟨rfl, ⟨nd, rfl⟩⟩; refine ⟨_, rfl, ?_⟩))
    go_ret
    exact ⟨by first | rfl | (simp [errW_none, errW_some] <;> rfl) | (simp [*, errW_none, errW_some] <;> rfl), bw2_ HB.out GE475.out GE476.out⟩
   ·replace c19 := Bool.eq_false_iff.mpr c19
    subst c19
    have H1 : (some (-1)) = some r := by rw [if_neg (show ¬ (false = true) by decide)] at H; exact H
    clear H
    have H := H1
    clear H1
    obtain rfl := Option.some.inj H
    go_wp2
    go_ret
    exact ⟨by first | rfl | (simp [errW_none, errW_some] <;> rfl) | (simp [*, errW_none, errW_some] <;> rfl), bw2_ HB.out GE475.out GE476.out⟩
  ·replace c8 := Bool.eq_false_iff.mpr c8
   subst c8
   have H1 : (some (-1)) = some r := by rw [if_neg (show ¬ (false = true) by decide)] at H; exact H
   clear H
   have H := H1
   clear H1
   obtain rfl := Option.some.inj H
   go_enter Try.func23, Try.ntmps23
   go_wp2_with (first | ((with_reducible refine gate_dst (N := 4) rfl ?_); refine box_event ?hg (N := 4) ?hd (cs := #[.int .i64 a0_0, .slice A0_1 l0_1.length c0_1, .slice A0_2 l0_2.length c0_2, .slice A0_3 l0_3.length c0_3]) (t := 27) ?hr ?_; (case hd => rfl); (case hg => rfl); (case hr => first | (go_simp; done) | (go_simp; rfl)); intro gb475 hg w23 hbox hb; have BK475 := sd_ (hbox); have GW475 := sd_ ((by rw [hg]; exact (below_size (bw0_ HB.out)) : w.heap.size ≤ gb475)); have GE475 := sd_ ((by rw [hg]; exact (below_size (bw0_ HB.out)) : w.heap.size ≤ gb475)); replace HB := sd_ (below_step (bw0_ HB.out) hb); clear hb hbox hg) | ((with_reducible refine gate_dst (N := 5) rfl ?_); refine box_event ?hg (N := 5) ?hd (cs := #[.int .i64 a1_0, .slice A1_1 l1_1.length c1_1, .slice A1_2 l1_2.length c1_2, .slice A1_3 l1_3.length c1_3]) (t := 27) ?hr ?_; (case hd => rfl); (case hg => rfl); (case hr => first | (go_simp; done) | (go_simp; rfl)); intro gb476 hg w24 hbox hb; have BK476 := sd_ (hbox); have GW476 := sd_ ((by rw [hg]; exact (below_size (bw1_ HB.out GE475.out)) : w.heap.size ≤ gb476)); have GE476 := sd_ ((by rw [hg]; exact (below_size (bw1_ HB.out GE475.out)) : w.heap.size ≤ gb476)); replace HB := sd_ (below_step (bw1_ HB.out GE475.out) hb); have NB475_476 := sd_ ((by rw [hg]; exact Nat.ne_of_lt (bl_ BK475.out) : gb475 ≠ gb476)); have NB476_475 := sd_ ((by rw [hg]; exact Nat.ne_of_gt (bl_ BK475.out) : gb476 ≠ gb475)); replace BK475 := sd_ (bb_ BK475.out hb); clear hb hbox hg; have hnb25 := NB475_476.out; have hnc25 := NB476_475.out; have hcz26_0 : w24.cell? ⟨gb475, 0, none⟩ = some (.int .i64 a0_0) := (blk_cell BK475.out 0).trans rfl; have hcz26_1 : w24.cell? ⟨gb475, 1, none⟩ = some (.slice A0_1 l0_1.length c0_1) := (blk_cell BK475.out 1).trans rfl; have hcz26_2 : w24.cell? ⟨gb475, 2, none⟩ = some (.slice A0_2 l0_2.length c0_2) := (blk_cell BK475.out 2).trans rfl; have hcz26_3 : w24.cell? ⟨gb475, 3, none⟩ = some (.slice A0_3 l0_3.length c0_3) := (blk_cell BK475.out 3).trans rfl; have hfz26_0 := blk_frozen BK475.out 0; have hfz26_1 := blk_frozen BK475.out 1; have hfz26_2 := blk_frozen BK475.out 2; have hfz26_3 := blk_frozen BK475.out 3; have hcz27_0 : w24.cell? ⟨gb476, 0, none⟩ = some (.int .i64 a1_0) := (blk_cell BK476.out 0).trans rfl; have hcz27_1 : w24.cell? ⟨gb476, 1, none⟩ = some (.slice A1_1 l1_1.length c1_1) := (blk_cell BK476.out 1).trans rfl; have hcz27_2 : w24.cell? ⟨gb476, 2, none⟩ = some (.slice A1_2 l1_2.length c1_2) := (blk_cell BK476.out 2).trans rfl; have hcz27_3 : w24.cell? ⟨gb476, 3, none⟩ = some (.slice A1_3 l1_3.length c1_3) := (blk_cell BK476.out 3).trans rfl; have hfz27_0 := blk_frozen BK476.out 0; have hfz27_1 := blk_frozen BK476.out 1; have hfz27_2 := blk_frozen BK476.out 2; have hfz27_3 := blk_frozen BK476.out 3) | ((with_reducible refine gate_callee (f := 79) rfl ?_); refine goesL_ (some 11) rfl rfl Try.func79 (by kernel_rfl) rfl #[.agg #[.int .i64 a0_0, .slice A0_1 l0_1.length c0_1, .slice A0_2 l0_2.length c0_2, .slice A0_3 l0_3.length c0_3], .agg #[.int .i64 a1_0, .slice A1_1 l1_1.length c1_1, .slice A1_2 l1_2.length c1_2, .slice A1_3 l1_3.length c1_3]] rfl (by (try simp only [List.map_toArray, List.map_cons, List.map_nil]); first | done | rfl | (simp only [List.length_drop, List.length_take]; rfl)) ?_; (with_reducible refine (spec_l1Product.calls k a0_0 _ _ l0_1 _ _ l0_2 _ _ l0_3 a1_0 _ _ l1_1 _ _ l1_2 _ _ l1_3 true _ ?side1 ?side2 ?side3 ?side4 ?side5 ?side6 ?side7 ?side8 ?side9 ?side10 ?side11 ?side12 A5.out).mono ?_); (case side1 => exact kc_ HR0_1.out HB.out); (case side2 => exact HC0_1.out); (case side3 => exact kc_ HR0_2.out HB.out); (case side4 => exact HC0_2.out); (case side5 => exact kc_ HR0_3.out HB.out); (case side6 => exact HC0_3.out); (case side7 => exact kc_ HR1_1.out HB.out); (case side8 => exact HC1_1.out); (case side9 => exact kc_ HR1_2.out HB.out); (case side10 => exact HC1_2.out); (case side11 => exact kc_ HR1_3.out HB.out); (case side12 => exact HC1_3.out); rintro e w28 ⟨rfl, hb⟩; refine ⟨_, rfl, ?_⟩; replace BK475 := sd_ (bb_ BK475.out hb); replace BK476 := sd_ (bb_ BK476.out hb); replace HB := sd_ (below_step (bw2_ HB.out GE475.out GE476.out) hb); (try clear hb); (try clear hb2); (try clear hk); (try clear hi); have hcz29_0 : w28.cell? ⟨gb475, 0, none⟩ = some (.int .i64 a0_0) := (blk_cell BK475.out 0).trans rfl; have hcz29_1 : w28.cell? ⟨gb475, 1, none⟩ = some (.slice A0_1 l0_1.length c0_1) := (blk_cell BK475.out 1).trans rfl; have hcz29_2 : w28.cell? ⟨gb475, 2, none⟩ = some (.slice A0_2 l0_2.length c0_2) := (blk_cell BK475.out 2).trans rfl; have hcz29_3 : w28.cell? ⟨gb475, 3, none⟩ = some (.slice A0_3 l0_3.length c0_3) := (blk_cell BK475.out 3).trans rfl; have hfz29_0 := blk_frozen BK475.out 0; have hfz29_1 := blk_frozen BK475.out 1; have hfz29_2 := blk_frozen BK475.out 2; have hfz29_3 := blk_frozen BK475.out 3) | (go_at_call 80; (with_reducible refine (spec_l1In.calls a2 0 (wrap64 (a0_0 - 1)) false _ A7.out).mono ?_); rintro e w' ⟨rfl, ⟨nd, rfl⟩⟩))
   go_ret
   exact ⟨by first | rfl | (simp [errW_none, errW_some] <;> rfl) | (simp [*, errW_none, errW_some] <;> rfl), bw2_ HB.out GE475.out GE476.out⟩
 ·replace c6 := Bool.eq_false_iff.mpr c6
  subst c6
  have H1 : (some (-1)) = some r := by rw [if_neg (show ¬ (false = true) by decide)] at H; exact H
  clear H
  have H := H1
  clear H1
  obtain rfl := Option.some.inj H
  go_enter Try.func23, Try.ntmps23
  go_wp2_with (first | ((with_reducible refine gate_dst (N := 4) rfl ?_); refine box_event ?hg (N := 4) ?hd (cs := #[.int .i64 a0_0, .slice A0_1 l0_1.length c0_1, .slice A0_2 l0_2.length c0_2, .slice A0_3 l0_3.length c0_3]) (t := 27) ?hr ?_; (case hd => rfl); (case hg => rfl); (case hr => first | (go_simp; done) | (go_simp; rfl)); intro gb475 hg w30 hbox hb; have BK475 := sd_ (hbox); have GW475 := sd_ ((by rw [hg]; exact (below_size (bw0_ HB.out)) : w.heap.size ≤ gb475)); have GE475 := sd_ ((by rw [hg]; exact (below_size (bw0_ HB.out)) : w.heap.size ≤ gb475)); replace HB := sd_ (below_step (bw0_ HB.out) hb); clear hb hbox hg) | ((with_reducible refine gate_dst (N := 5) rfl ?_); refine box_event ?hg (N := 5) ?hd (cs := #[.int .i64 a1_0, .slice A1_1 l1_1.length c1_1, .slice A1_2 l1_2.length c1_2, .slice A1_3 l1_3.length c1_3]) (t := 27) ?hr ?_; (case hd => rfl); (case hg => rfl); (case hr => first | (go_simp; done) | (go_simp; rfl)); intro gb476 hg w31 hbox hb; have BK476 := sd_ (hbox); have GW476 := sd_ ((by rw [hg]; exact (below_size (bw1_ HB.out GE475.out)) : w.heap.size ≤ gb476)); have GE476 := sd_ ((by rw [hg]; exact (below_size (bw1_ HB.out GE475.out)) : w.heap.size ≤ gb476)); replace HB := sd_ (below_step (bw1_ HB.out GE475.out) hb); have NB475_476 := sd_ ((by rw [hg]; exact Nat.ne_of_lt (bl_ BK475.out) : gb475 ≠ gb476)); have NB476_475 := sd_ ((by rw [hg]; exact Nat.ne_of_gt (bl_ BK475.out) : gb476 ≠ gb475)); replace BK475 := sd_ (bb_ BK475.out hb); clear hb hbox hg; have hnb32 := NB475_476.out; have hnc32 := NB476_475.out; have hcz33_0 : w31.cell? ⟨gb475, 0, none⟩ = some (.int .i64 a0_0) := (blk_cell BK475.out 0).trans rfl; have hcz33_1 : w31.cell? ⟨gb475, 1, none⟩ = some (.slice A0_1 l0_1.length c0_1) := (blk_cell BK475.out 1).trans rfl; have hcz33_2 : w31.cell? ⟨gb475, 2, none⟩ = some (.slice A0_2 l0_2.length c0_2) := (blk_cell BK475.out 2).trans rfl; have hcz33_3 : w31.cell? ⟨gb475, 3, none⟩ = some (.slice A0_3 l0_3.length c0_3) := (blk_cell BK475.out 3).trans rfl; have hfz33_0 := blk_frozen BK475.out 0; have hfz33_1 := blk_frozen BK475.out 1; have hfz33_2 := blk_frozen BK475.out 2; have hfz33_3 := blk_frozen BK475.out 3; have hcz34_0 : w31.cell? ⟨gb476, 0, none⟩ = some (.int .i64 a1_0) := (blk_cell BK476.out 0).trans rfl; have hcz34_1 : w31.cell? ⟨gb476, 1, none⟩ = some (.slice A1_1 l1_1.length c1_1) := (blk_cell BK476.out 1).trans rfl; have hcz34_2 : w31.cell? ⟨gb476, 2, none⟩ = some (.slice A1_2 l1_2.length c1_2) := (blk_cell BK476.out 2).trans rfl; have hcz34_3 : w31.cell? ⟨gb476, 3, none⟩ = some (.slice A1_3 l1_3.length c1_3) := (blk_cell BK476.out 3).trans rfl; have hfz34_0 := blk_frozen BK476.out 0; have hfz34_1 := blk_frozen BK476.out 1; have hfz34_2 := blk_frozen BK476.out 2; have hfz34_3 := blk_frozen BK476.out 3) | ((with_reducible refine gate_callee (f := 79) rfl ?_); refine goesL_ (some 11) rfl rfl Try.func79 (by kernel_rfl) rfl #[.agg #[.int .i64 a0_0, .slice A0_1 l0_1.length c0_1, .slice A0_2 l0_2.length c0_2, .slice A0_3 l0_3.length c0_3], .agg #[.int .i64 a1_0, .slice A1_1 l1_1.length c1_1, .slice A1_2 l1_2.length c1_2, .slice A1_3 l1_3.length c1_3]] rfl (by (try simp only [List.map_toArray, List.map_cons, List.map_nil]); first | done | rfl | (simp only [List.length_drop, List.length_take]; rfl)) ?_; (with_reducible refine (spec_l1Product.calls k a0_0 _ _ l0_1 _ _ l0_2 _ _ l0_3 a1_0 _ _ l1_1 _ _ l1_2 _ _ l1_3 false _ ?side1 ?side2 ?side3 ?side4 ?side5 ?side6 ?side7 ?side8 ?side9 ?side10 ?side11 ?side12 A5.out).mono ?_); (case side1 => exact kc_ HR0_1.out HB.out); (case side2 => exact HC0_1.out); (case side3 => exact kc_ HR0_2.out HB.out); (case side4 => exact HC0_2.out); (case side5 => exact kc_ HR0_3.out HB.out); (case side6 => exact HC0_3.out); (case side7 => exact kc_ HR1_1.out HB.out); (case side8 => exact HC1_1.out); (case side9 => exact kc_ HR1_2.out HB.out); (case side10 => exact HC1_2.out); (case side11 => exact kc_ HR1_3.out HB.out); (case side12 => exact HC1_3.out); rintro e w35 ⟨rfl, hb⟩; refine ⟨_, rfl, ?_⟩; replace BK475 := sd_ (bb_ BK475.out hb); replace BK476 := sd_ (bb_ BK476.out hb); replace HB := sd_ (below_step (bw2_ HB.out GE475.out GE476.out) hb); (try clear hb); (try clear hb2); (try clear hk); (try clear hi)))
  go_ret
  exact ⟨by first | rfl | (simp [errW_none, errW_some] <;> rfl) | (simp [*, errW_none, errW_some] <;> rfl), bw2_ HB.out GE475.out GE476.out⟩

end Go.Proofs.Ytcdmnofomoadlaa.P
