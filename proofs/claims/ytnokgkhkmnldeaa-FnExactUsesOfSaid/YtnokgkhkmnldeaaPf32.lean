-- Printed by this session's own program (wip/tools/mkprint.py) out of the translation. Not trusted: Lean checks it.
import Derived.Test.YtnokgkhkmnldeaaP0
import Derived.Test.YtnokgkhkmnldeaaPf69
import Derived.Test.YtnokgkhkmnldeaaPf70
/-! short words -/
namespace Go.Proofs.Ytnokgkhkmnldeaa.P
open Go.RowKit Go.Proofs.YtnokgkhkmnldeaaW.PrintWords Go.Proofs.YtnokgkhkmnldeaaW.PrintLast Go.Proofs.YtnokgkhkmnldeaaW.PrintMore
attribute [local go_sem] max2_int min2_int max_two min_two max_three min_three max_four min_four   -- for this text's walks alone
set_option linter.unusedVariables false
set_option linter.unusedSimpArgs false

/-! ### spec_IsWritten: function 32 -/
def spec_IsWritten.f (k : Nat) (a0_0 : Int) (a0_1 : Int) (l0_2 : List Int) (l0_3 : List (S48)) : Option (Bool) := (spec_l2Left.f k a0_0 a0_1 l0_2 l0_3 400).bind fun t570 => (if t570 ≥ 0 then ((spec_l2Term.f k a0_0 a0_1 l0_2 l0_3 8 16 false).bind fun t571 => (some t571)) else (some false))
set_option maxHeartbeats 8000000 in
set_option maxRecDepth 100000 in
theorem spec_IsWritten.calls (k : Nat) (a0_0 : Int) (a0_1 : Int) (A0_2 : Option Addr) (c0_2 : Nat) (l0_2 : List Int) (A0_3 : Option Addr) (c0_3 : Nat) (l0_3 : List (S48)) (r : Bool) (w : World) (hr0_2 : Kd.C (Kd.int .i64) w A0_2 l0_2.length l0_2) (hc0_2 : l0_2.length ≤ c0_2) (hr0_3 : Kd.C k48 w A0_3 l0_3.length l0_3) (hc0_3 : l0_3.length ≤ c0_3) (h : spec_IsWritten.f k a0_0 a0_1 l0_2 l0_3 = some r) :
  Calls Try.prog 32 #[.agg #[.int .i64 a0_0, .int .i64 a0_1, .slice A0_2 l0_2.length c0_2, .slice A0_3 l0_3.length c0_3]] w fun e w' => e = .returned (.bool r) ∧ Below w.heap.size w w' := by
 have hu48 := Try.underlying48
 have HR0_2 := sd_ hr0_2
 have HC0_2 := sd_ hc0_2
 clear hr0_2 hc0_2
 have HR0_3 := sd_ hr0_3
 have HC0_3 := sd_ hc0_3
 clear hr0_3 hc0_3
 have HB := sd_ (Below.refl w.heap.size w)
 have H : ((spec_l2Left.f k a0_0 a0_1 l0_2 l0_3 400).bind fun t570 => (if t570 ≥ 0 then ((spec_l2Term.f k a0_0 a0_1 l0_2 l0_3 8 16 false).bind fun t571 => (some t571)) else (some false))) = some r := h
 clear h
 replace H := Option.bind_eq_some_iff.mp H
 obtain ⟨t570, A20, H⟩ := H
 replace H : (if t570 ≥ 0 then ((spec_l2Term.f k a0_0 a0_1 l0_2 l0_3 8 16 false).bind fun t571 => (some t571)) else (some false)) = some r := H
 have A2 := sd_ A20
 clear A20
 by_cases c3 : t570 ≥ 0
 ·rw [if_pos c3] at H
  have c3b0 : decide (0 ≤ t570) = true := decide_eq_true c3
  clear c3
  replace H := Option.bind_eq_some_iff.mp H
  obtain ⟨t571, A40, H⟩ := H
  replace H : (some t571) = some r := H
  have A4 := sd_ A40
  clear A40
  obtain rfl := Option.some.inj H
  go_enter Try.func32, Try.ntmps32
  go_wp2_with (first | ((with_reducible refine gate_dst (N := 1) rfl ?_); refine box_event ?hg (N := 1) ?hd (cs := #[.int .i64 a0_0, .int .i64 a0_1, .slice A0_2 l0_2.length c0_2, .slice A0_3 l0_3.length c0_3]) (t := 48) ?hr ?_; (case hd => rfl); (case hg => rfl); (case hr => first | (go_simp; done) | (go_simp; rfl)); intro gb569 hg w5 hbox hb; have BK569 := sd_ (hbox); have GW569 := sd_ ((by rw [hg]; exact (below_size (bw0_ HB.out)) : w.heap.size ≤ gb569)); have GE569 := sd_ ((by rw [hg]; exact (below_size (bw0_ HB.out)) : w.heap.size ≤ gb569)); replace HB := sd_ (below_step (bw0_ HB.out) hb); clear hb hbox hg; have hcz6_0 : w5.cell? ⟨gb569, 0, none⟩ = some (.int .i64 a0_0) := (blk_cell BK569.out 0).trans rfl; have hcz6_1 : w5.cell? ⟨gb569, 1, none⟩ = some (.int .i64 a0_1) := (blk_cell BK569.out 1).trans rfl; have hcz6_2 : w5.cell? ⟨gb569, 2, none⟩ = some (.slice A0_2 l0_2.length c0_2) := (blk_cell BK569.out 2).trans rfl; have hcz6_3 : w5.cell? ⟨gb569, 3, none⟩ = some (.slice A0_3 l0_3.length c0_3) := (blk_cell BK569.out 3).trans rfl; have hfz6_0 := blk_frozen BK569.out 0; have hfz6_1 := blk_frozen BK569.out 1; have hfz6_2 := blk_frozen BK569.out 2; have hfz6_3 := blk_frozen BK569.out 3) | ((with_reducible refine gate_callee (f := 69) rfl ?_); refine goesL_ (some 4) rfl rfl Try.func69 (by kernel_rfl) rfl #[.agg #[.int .i64 a0_0, .int .i64 a0_1, .slice A0_2 l0_2.length c0_2, .slice A0_3 l0_3.length c0_3], .int .i64 400] rfl (by (try simp only [List.map_toArray, List.map_cons, List.map_nil]); first | done | rfl | (simp only [List.length_drop, List.length_take]; rfl)) ?_; (with_reducible refine (spec_l2Left.calls k a0_0 a0_1 _ _ l0_2 _ _ l0_3 400 t570 _ ?side1 ?side2 ?side3 ?side4 A2.out).mono ?_); (case side1 => exact kc_ HR0_2.out HB.out); (case side2 => exact HC0_2.out); (case side3 => exact kc_ HR0_3.out HB.out); (case side4 => exact HC0_3.out); rintro e w7 ⟨rfl, hb⟩; refine ⟨_, rfl, ?_⟩; replace BK569 := sd_ (bb_ BK569.out hb); replace HB := sd_ (below_step (bw1_ HB.out GE569.out) hb); (try clear hb); (try clear hb2); (try clear hk); (try clear hi); have hcz8_0 : w7.cell? ⟨gb569, 0, none⟩ = some (.int .i64 a0_0) := (blk_cell BK569.out 0).trans rfl; have hcz8_1 : w7.cell? ⟨gb569, 1, none⟩ = some (.int .i64 a0_1) := (blk_cell BK569.out 1).trans rfl; have hcz8_2 : w7.cell? ⟨gb569, 2, none⟩ = some (.slice A0_2 l0_2.length c0_2) := (blk_cell BK569.out 2).trans rfl; have hcz8_3 : w7.cell? ⟨gb569, 3, none⟩ = some (.slice A0_3 l0_3.length c0_3) := (blk_cell BK569.out 3).trans rfl; have hfz8_0 := blk_frozen BK569.out 0; have hfz8_1 := blk_frozen BK569.out 1; have hfz8_2 := blk_frozen BK569.out 2; have hfz8_3 := blk_frozen BK569.out 3) | (go_at_call 70; (with_reducible refine (spec_l2Term.calls k a0_0 a0_1 _ _ l0_2 _ _ l0_3 8 16 false t571 _ ?side1 ?side2 ?side3 ?side4 A4.out).mono ?_); (case side1 => exact kc_ HR0_2.out HB.out); (case side2 => exact HC0_2.out); (case side3 => exact kc_ HR0_3.out HB.out); (case side4 => exact HC0_3.out); rintro e w9 ⟨rfl, hb⟩; replace BK569 := sd_ (bb_ BK569.out hb); replace HB := sd_ (below_step (bw1_ HB.out GE569.out) hb); (try clear hb); (try clear hb2); (try clear hk); (try clear hi)))
  go_ret
  exact ⟨by first | rfl | (simp [errW_none, errW_some] <;> rfl) | (simp [*, errW_none, errW_some] <;> rfl), bw1_ HB.out GE569.out⟩
 ·rw [if_neg c3] at H
  have c3b0 : decide (0 ≤ t570) = false := decide_eq_false c3
  clear c3
  obtain rfl := Option.some.inj H
  go_enter Try.func32, Try.ntmps32
  go_wp2_with (first | ((with_reducible refine gate_dst (N := 1) rfl ?_); refine box_event ?hg (N := 1) ?hd (cs := #[.int .i64 a0_0, .int .i64 a0_1, .slice A0_2 l0_2.length c0_2, .slice A0_3 l0_3.length c0_3]) (t := 48) ?hr ?_; (case hd => rfl); (case hg => rfl); (case hr => first | (go_simp; done) | (go_simp; rfl)); intro gb569 hg w10 hbox hb; have BK569 := sd_ (hbox); have GW569 := sd_ ((by rw [hg]; exact (below_size (bw0_ HB.out)) : w.heap.size ≤ gb569)); have GE569 := sd_ ((by rw [hg]; exact (below_size (bw0_ HB.out)) : w.heap.size ≤ gb569)); replace HB := sd_ (below_step (bw0_ HB.out) hb); clear hb hbox hg; have hcz11_0 : w10.cell? ⟨gb569, 0, none⟩ = some (.int .i64 a0_0) := (blk_cell BK569.out 0).trans rfl; have hcz11_1 : w10.cell? ⟨gb569, 1, none⟩ = some (.int .i64 a0_1) := (blk_cell BK569.out 1).trans rfl; have hcz11_2 : w10.cell? ⟨gb569, 2, none⟩ = some (.slice A0_2 l0_2.length c0_2) := (blk_cell BK569.out 2).trans rfl; have hcz11_3 : w10.cell? ⟨gb569, 3, none⟩ = some (.slice A0_3 l0_3.length c0_3) := (blk_cell BK569.out 3).trans rfl; have hfz11_0 := blk_frozen BK569.out 0; have hfz11_1 := blk_frozen BK569.out 1; have hfz11_2 := blk_frozen BK569.out 2; have hfz11_3 := blk_frozen BK569.out 3) | ((with_reducible refine gate_callee (f := 69) rfl ?_); refine goesL_ (some 4) rfl rfl Try.func69 (by kernel_rfl) rfl #[.agg #[.int .i64 a0_0, .int .i64 a0_1, .slice A0_2 l0_2.length c0_2, .slice A0_3 l0_3.length c0_3], .int .i64 400] rfl (by (try simp only [List.map_toArray, List.map_cons, List.map_nil]); first | done | rfl | (simp only [List.length_drop, List.length_take]; rfl)) ?_; (with_reducible refine (spec_l2Left.calls k a0_0 a0_1 _ _ l0_2 _ _ l0_3 400 t570 _ ?side1 ?side2 ?side3 ?side4 A2.out).mono ?_); (case side1 => exact kc_ HR0_2.out HB.out); (case side2 => exact HC0_2.out); (case side3 => exact kc_ HR0_3.out HB.out); (case side4 => exact HC0_3.out); rintro e w12 ⟨rfl, hb⟩; refine ⟨_, rfl, ?_⟩; replace BK569 := sd_ (bb_ BK569.out hb); replace HB := sd_ (below_step (bw1_ HB.out GE569.out) hb); (try clear hb); (try clear hb2); (try clear hk); (try clear hi)))
  go_ret
  exact ⟨by first | rfl | (simp [errW_none, errW_some] <;> rfl) | (simp [*, errW_none, errW_some] <;> rfl), bw1_ HB.out GE569.out⟩

end Go.Proofs.Ytnokgkhkmnldeaa.P
