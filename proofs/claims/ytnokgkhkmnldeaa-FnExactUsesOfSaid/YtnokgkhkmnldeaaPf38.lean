-- Printed by this session's own program (wip/tools/mkprint.py) out of the translation. Not trusted: Lean checks it.
import Derived.Test.YtnokgkhkmnldeaaP0
import Derived.Test.YtnokgkhkmnldeaaPf32
import Derived.Test.YtnokgkhkmnldeaaPf74
/-! short words -/
namespace Go.Proofs.Ytnokgkhkmnldeaa.P
open Go.RowKit Go.Proofs.YtnokgkhkmnldeaaW.PrintWords Go.Proofs.YtnokgkhkmnldeaaW.PrintLast Go.Proofs.YtnokgkhkmnldeaaW.PrintMore
attribute [local go_sem] max2_int min2_int max_two min_two max_three min_three max_four min_four   -- for this text's walks alone
set_option linter.unusedVariables false
set_option linter.unusedSimpArgs false

/-! ### spec_UsesOf: function 38 -/
def spec_UsesOf.f (k : Nat) (a0_0 : Int) (a0_1 : Int) (l0_2 : List Int) (l0_3 : List (S48)) (a1 : Int) : Option (Int) := (spec_IsWritten.f k a0_0 a0_1 l0_2 l0_3).bind fun t697 => (if t697 = true then (if a1 < 0 then (some (-1)) else ((spec_l2Uses.f k a0_0 a0_1 l0_2 l0_3 a1).bind fun t698 => (some t698))) else (some (-1)))
set_option maxHeartbeats 8000000 in
set_option maxRecDepth 100000 in
theorem spec_UsesOf.calls (k : Nat) (a0_0 : Int) (a0_1 : Int) (A0_2 : Option Addr) (c0_2 : Nat) (l0_2 : List Int) (A0_3 : Option Addr) (c0_3 : Nat) (l0_3 : List (S48)) (a1 : Int) (r : Int) (w : World) (hr0_2 : Kd.C (Kd.int .i64) w A0_2 l0_2.length l0_2) (hc0_2 : l0_2.length ≤ c0_2) (hr0_3 : Kd.C k48 w A0_3 l0_3.length l0_3) (hc0_3 : l0_3.length ≤ c0_3) (h : spec_UsesOf.f k a0_0 a0_1 l0_2 l0_3 a1 = some r) :
  Calls Try.prog 38 #[.agg #[.int .i64 a0_0, .int .i64 a0_1, .slice A0_2 l0_2.length c0_2, .slice A0_3 l0_3.length c0_3], .int .i64 a1] w fun e w' => e = .returned (.int .i64 r) ∧ Below w.heap.size w w' := by
 have hu48 := Try.underlying48
 have HR0_2 := sd_ hr0_2
 have HC0_2 := sd_ hc0_2
 clear hr0_2 hc0_2
 have HR0_3 := sd_ hr0_3
 have HC0_3 := sd_ hc0_3
 clear hr0_3 hc0_3
 have HB := sd_ (Below.refl w.heap.size w)
 have H : ((spec_IsWritten.f k a0_0 a0_1 l0_2 l0_3).bind fun t697 => (if t697 = true then (if a1 < 0 then (some (-1)) else ((spec_l2Uses.f k a0_0 a0_1 l0_2 l0_3 a1).bind fun t698 => (some t698))) else (some (-1)))) = some r := h
 clear h
 replace H := Option.bind_eq_some_iff.mp H
 obtain ⟨t697, A30, H⟩ := H
 replace H : (if t697 = true then (if a1 < 0 then (some (-1)) else ((spec_l2Uses.f k a0_0 a0_1 l0_2 l0_3 a1).bind fun t698 => (some t698))) else (some (-1))) = some r := H
 have A3 := sd_ A30
 clear A30
 by_cases c4 : t697 = true
 ·subst c4
  have H1 : (if a1 < 0 then (some (-1)) else ((spec_l2Uses.f k a0_0 a0_1 l0_2 l0_3 a1).bind fun t698 => (some t698))) = some r := by rw [if_pos rfl] at H; exact H
  clear H
  have H := H1
  clear H1
  have HP5 := sd_ H
  clear H
  go_enter Try.func38, Try.ntmps38
  go_upto_if 11 with (first | ((with_reducible refine gate_dst (N := 2) rfl ?_); refine box_event ?hg (N := 2) ?hd (cs := #[.int .i64 a0_0, .int .i64 a0_1, .slice A0_2 l0_2.length c0_2, .slice A0_3 l0_3.length c0_3]) (t := 48) ?hr ?_; (case hd => rfl); (case hg => rfl); (case hr => first | (go_simp; done) | (go_simp; rfl)); intro gb696 hg w6 hbox hb; have BK696 := sd_ (hbox); have GW696 := sd_ ((by rw [hg]; exact (below_size (bw0_ HB.out)) : w.heap.size ≤ gb696)); have GE696 := sd_ ((by rw [hg]; exact (below_size (bw0_ HB.out)) : w.heap.size ≤ gb696)); replace HB := sd_ (below_step (bw0_ HB.out) hb); clear hb hbox hg; have hcz7_0 : w6.cell? ⟨gb696, 0, none⟩ = some (.int .i64 a0_0) := (blk_cell BK696.out 0).trans rfl; have hcz7_1 : w6.cell? ⟨gb696, 1, none⟩ = some (.int .i64 a0_1) := (blk_cell BK696.out 1).trans rfl; have hcz7_2 : w6.cell? ⟨gb696, 2, none⟩ = some (.slice A0_2 l0_2.length c0_2) := (blk_cell BK696.out 2).trans rfl; have hcz7_3 : w6.cell? ⟨gb696, 3, none⟩ = some (.slice A0_3 l0_3.length c0_3) := (blk_cell BK696.out 3).trans rfl; have hfz7_0 := blk_frozen BK696.out 0; have hfz7_1 := blk_frozen BK696.out 1; have hfz7_2 := blk_frozen BK696.out 2; have hfz7_3 := blk_frozen BK696.out 3) | ((with_reducible refine gate_callee (f := 32) rfl ?_); refine goesL_ (some 6) rfl rfl Try.func32 (by kernel_rfl) rfl #[.agg #[.int .i64 a0_0, .int .i64 a0_1, .slice A0_2 l0_2.length c0_2, .slice A0_3 l0_3.length c0_3]] rfl (by (try simp only [List.map_toArray, List.map_cons, List.map_nil]); first | done | rfl | (simp only [List.length_drop, List.length_take]; rfl)) ?_; (with_reducible refine (spec_IsWritten.calls k a0_0 a0_1 _ _ l0_2 _ _ l0_3 true _ ?side1 ?side2 ?side3 ?side4 A3.out).mono ?_); (case side1 => exact kc_ HR0_2.out HB.out); (case side2 => exact HC0_2.out); (case side3 => exact kc_ HR0_3.out HB.out); (case side4 => exact HC0_3.out); rintro e w8 ⟨rfl, hb⟩; refine ⟨_, rfl, ?_⟩; replace BK696 := sd_ (bb_ BK696.out hb); replace HB := sd_ (below_step (bw1_ HB.out GE696.out) hb); (try clear hb); (try clear hb2); (try clear hk); (try clear hi)))
  have H := HP5.out
  clear HP5
  by_cases c9 : a1 < 0
  ·rw [if_pos c9] at H
   have c9b0 : decide (a1 < 0) = true := decide_eq_true c9
   clear c9
   (first | rw [c9b0] | (simp only [i64_w, i32_w]; rw [c9b0]) | skip)
   obtain rfl := Option.some.inj H
   go_wp2
   go_ret
   exact ⟨by first | rfl | (simp [errW_none, errW_some] <;> rfl) | (simp [*, errW_none, errW_some] <;> rfl), bw1_ HB.out GE696.out⟩
  ·rw [if_neg c9] at H
   have c9b0 : decide (a1 < 0) = false := decide_eq_false c9
   clear c9
   (first | rw [c9b0] | (simp only [i64_w, i32_w]; rw [c9b0]) | skip)
   replace H := Option.bind_eq_some_iff.mp H
   obtain ⟨t698, A100, H⟩ := H
   replace H : (some t698) = some r := H
   have A10 := sd_ A100
   clear A100
   obtain rfl := Option.some.inj H
   have hcz11_0 : w8.cell? ⟨gb696, 0, none⟩ = some (.int .i64 a0_0) := (blk_cell BK696.out 0).trans rfl
   have hcz11_1 : w8.cell? ⟨gb696, 1, none⟩ = some (.int .i64 a0_1) := (blk_cell BK696.out 1).trans rfl
   have hcz11_2 : w8.cell? ⟨gb696, 2, none⟩ = some (.slice A0_2 l0_2.length c0_2) := (blk_cell BK696.out 2).trans rfl
   have hcz11_3 : w8.cell? ⟨gb696, 3, none⟩ = some (.slice A0_3 l0_3.length c0_3) := (blk_cell BK696.out 3).trans rfl
   have hfz11_0 := blk_frozen BK696.out 0
   have hfz11_1 := blk_frozen BK696.out 1
   have hfz11_2 := blk_frozen BK696.out 2
   have hfz11_3 := blk_frozen BK696.out 3
   go_wp2_with (first | ((with_reducible refine gate_callee (f := 74) rfl ?_); refine goesL_ (some 14) rfl rfl Try.func74 (by kernel_rfl) rfl #[.agg #[.int .i64 a0_0, .int .i64 a0_1, .slice A0_2 l0_2.length c0_2, .slice A0_3 l0_3.length c0_3], .int .i64 a1] rfl (by (try simp only [List.map_toArray, List.map_cons, List.map_nil]); first | done | rfl | (simp only [List.length_drop, List.length_take]; rfl)) ?_; (with_reducible refine (spec_l2Uses.calls k a0_0 a0_1 _ _ l0_2 _ _ l0_3 a1 t698 _ ?side1 ?side2 ?side3 ?side4 A10.out).mono ?_); (case side1 => exact kc_ HR0_2.out HB.out); (case side2 => exact HC0_2.out); (case side3 => exact kc_ HR0_3.out HB.out); (case side4 => exact HC0_3.out); rintro e w12 ⟨rfl, hb⟩; refine ⟨_, rfl, ?_⟩; replace BK696 := sd_ (bb_ BK696.out hb); replace HB := sd_ (below_step (bw1_ HB.out GE696.out) hb); (try clear hb); (try clear hb2); (try clear hk); (try clear hi)))
   go_ret
   exact ⟨by first | rfl | (simp [errW_none, errW_some] <;> rfl) | (simp [*, errW_none, errW_some] <;> rfl), bw1_ HB.out GE696.out⟩
 ·replace c4 := Bool.eq_false_iff.mpr c4
  subst c4
  have H1 : (some (-1)) = some r := by rw [if_neg (show ¬ (false = true) by decide)] at H; exact H
  clear H
  have H := H1
  clear H1
  obtain rfl := Option.some.inj H
  go_enter Try.func38, Try.ntmps38
  go_wp2_with (first | ((with_reducible refine gate_dst (N := 2) rfl ?_); refine box_event ?hg (N := 2) ?hd (cs := #[.int .i64 a0_0, .int .i64 a0_1, .slice A0_2 l0_2.length c0_2, .slice A0_3 l0_3.length c0_3]) (t := 48) ?hr ?_; (case hd => rfl); (case hg => rfl); (case hr => first | (go_simp; done) | (go_simp; rfl)); intro gb696 hg w13 hbox hb; have BK696 := sd_ (hbox); have GW696 := sd_ ((by rw [hg]; exact (below_size (bw0_ HB.out)) : w.heap.size ≤ gb696)); have GE696 := sd_ ((by rw [hg]; exact (below_size (bw0_ HB.out)) : w.heap.size ≤ gb696)); replace HB := sd_ (below_step (bw0_ HB.out) hb); clear hb hbox hg; have hcz14_0 : w13.cell? ⟨gb696, 0, none⟩ = some (.int .i64 a0_0) := (blk_cell BK696.out 0).trans rfl; have hcz14_1 : w13.cell? ⟨gb696, 1, none⟩ = some (.int .i64 a0_1) := (blk_cell BK696.out 1).trans rfl; have hcz14_2 : w13.cell? ⟨gb696, 2, none⟩ = some (.slice A0_2 l0_2.length c0_2) := (blk_cell BK696.out 2).trans rfl; have hcz14_3 : w13.cell? ⟨gb696, 3, none⟩ = some (.slice A0_3 l0_3.length c0_3) := (blk_cell BK696.out 3).trans rfl; have hfz14_0 := blk_frozen BK696.out 0; have hfz14_1 := blk_frozen BK696.out 1; have hfz14_2 := blk_frozen BK696.out 2; have hfz14_3 := blk_frozen BK696.out 3) | ((with_reducible refine gate_callee (f := 32) rfl ?_); refine goesL_ (some 6) rfl rfl Try.func32 (by kernel_rfl) rfl #[.agg #[.int .i64 a0_0, .int .i64 a0_1, .slice A0_2 l0_2.length c0_2, .slice A0_3 l0_3.length c0_3]] rfl (by (try simp only [List.map_toArray, List.map_cons, List.map_nil]); first | done | rfl | (simp only [List.length_drop, List.length_take]; rfl)) ?_; (with_reducible refine (spec_IsWritten.calls k a0_0 a0_1 _ _ l0_2 _ _ l0_3 false _ ?side1 ?side2 ?side3 ?side4 A3.out).mono ?_); (case side1 => exact kc_ HR0_2.out HB.out); (case side2 => exact HC0_2.out); (case side3 => exact kc_ HR0_3.out HB.out); (case side4 => exact HC0_3.out); rintro e w15 ⟨rfl, hb⟩; refine ⟨_, rfl, ?_⟩; replace BK696 := sd_ (bb_ BK696.out hb); replace HB := sd_ (below_step (bw1_ HB.out GE696.out) hb); (try clear hb); (try clear hb2); (try clear hk); (try clear hi)))
  go_ret
  exact ⟨by first | rfl | (simp [errW_none, errW_some] <;> rfl) | (simp [*, errW_none, errW_some] <;> rfl), bw1_ HB.out GE696.out⟩

end Go.Proofs.Ytnokgkhkmnldeaa.P
