-- Printed by this session's own program (wip/tools/mkprint.py) out of the translation. Not trusted: Lean checks it.
import Derived.Test.YtcdmnofomoadlaaM1
import Derived.Test.YtcdmnofomoadlaaPf100
import Derived.Test.YtcdmnofomoadlaaM2
import Derived.Test.YtcdmnofomoadlaaPf96
import Derived.Test.YtcdmnofomoadlaaM5
/-! short words -/
namespace Go.Proofs.Ytcdmnofomoadlaa.P
open Go.RowKit Go.Proofs.YtcdmnofomoadlaaW.PrintWords Go.Proofs.YtcdmnofomoadlaaW.PrintLast Go.Proofs.YtcdmnofomoadlaaW.PrintMore
attribute [local go_sem] max2_int min2_int max_two min_two max_three min_three max_four min_four   -- for this text's walks alone
set_option linter.unusedVariables false
set_option linter.unusedSimpArgs false

/-! ### spec_DrawIsReliable: function 37 -/
def spec_DrawIsReliable.f (k : Nat) (l0 : List Int) : Option (Int × List Int × List Int × List Bool) := (spec_l1New.f k l0).bind fun bt442 => ((spec_l1Once.f bt442.1 bt442.2.1 bt442.2.2 5).bind fun bt446 => (if bt446.1 = true then ((spec_dAnySystem.f k bt442.1 bt446.2.1 bt446.2.2).bind fun bt449 => (some (bt449.1, bt449.2.1, bt449.2.2.1, bt449.2.2.2.1))) else ((spec_dSystem.f k bt442.1 bt446.2.1 bt446.2.2).bind fun bt461 => (some (bt461.1, bt461.2.1, bt461.2.2.1, bt461.2.2.2.1)))))
set_option maxHeartbeats 8000000 in
set_option maxRecDepth 100000 in
theorem spec_DrawIsReliable.calls (k : Nat) (A0 : Option Addr) (c0 : Nat) (l0 : List Int) (r1 : Int) (r2 : List Int) (r3 : List Int) (r4 : List Bool) (w : World) (hr0 : Kd.C (Kd.int .u8) w A0 l0.length l0) (hc0 : l0.length ≤ c0) (h : spec_DrawIsReliable.f k l0 = some (r1, r2, r3, r4)) :
  Calls Try.prog 37 #[.slice A0 l0.length c0] w fun e w' => ∃ v1_ v2_ v3_ : Value, e = .returned (.agg #[.int .i64 r1, v1_, v2_, v3_]) ∧ Kd.R (Kd.int .i64) 3 w' w.heap.size (fun k_ => some k_ ≠ (v2_ : Value).ownBlock) v1_ r2 ∧ Kd.R (Kd.int .i64) 3 w' w.heap.size (fun k_ => some k_ ≠ (v1_ : Value).ownBlock) v2_ r3 ∧ Kd.R Kd.bool 4 w' w.heap.size (fun _ => True) v3_ r4 ∧ Below w.heap.size w w' := by
 have hu27 := Try.underlying27
 have HR0 := sd_ hr0
 have HC0 := sd_ hc0
 clear hr0 hc0
 have HB := sd_ (Below.refl w.heap.size w)
 have H : ((spec_l1New.f k l0).bind fun bt442 => ((spec_l1Once.f bt442.1 bt442.2.1 bt442.2.2 5).bind fun bt446 => (if bt446.1 = true then ((spec_dAnySystem.f k bt442.1 bt446.2.1 bt446.2.2).bind fun bt449 => (some (bt449.1, bt449.2.1, bt449.2.2.1, bt449.2.2.2.1))) else ((spec_dSystem.f k bt442.1 bt446.2.1 bt446.2.2).bind fun bt461 => (some (bt461.1, bt461.2.1, bt461.2.2.1, bt461.2.2.2.1)))))) = some (r1, r2, r3, r4) := h
 clear h
 replace H := Option.bind_eq_some_iff.mp H
 obtain ⟨⟨t442, t443, t444⟩, A20, H⟩ := H
 try dsimp only at H
 have A2 := sd_ A20
 clear A20
 replace H := Option.bind_eq_some_iff.mp H
 obtain ⟨⟨t446, t447, t448⟩, A30, H⟩ := H
 try dsimp only at H
 have A3 := sd_ A30
 clear A30
 have HP4 := sd_ H
 clear H
 go_enter Try.func37, Try.ntmps37
 go_upto_if 7 with (first | ((with_reducible refine gate_dst (N := 2) rfl ?_); refine bx_ (N := 2) (cs := #[.int .i64 0, .slice none 0 0, .slice none 0 0, .slice none 0 0]) (t := 27) ?_; intro gb441 hg w5 hbox hb; have BK441 := sd_ (hbox); have GW441 := sd_ (gs_ hg (bw0_ HB.out)); have GE441 := sd_ (gs_ hg (bw0_ HB.out)); replace HB := sd_ (below_step (bw0_ HB.out) hb); clear hb hbox hg) | ((with_reducible refine gate_callee (f := 95) rfl ?_); refine goesL_ (some 5) rfl rfl Try.func95 (by kernel_rfl) rfl #[.slice A0 l0.length c0] rfl la_ ?_; (with_reducible refine (spec_l1New.calls k _ _ l0 t442 t443 t444 w _ ?side1 ?side2 ?side3 A2.out).mono ?_); (case side1 => repeat (first | (with_reducible first | exact HB.out | apply below_alloc | apply pw_below_drewN | apply below_drew1 | refine below_set ?_ GE441.out) | exact HB.out)); (case side2 => exact HR0.out); (case side3 => exact HC0.out); rintro e w6 ⟨g445, rfl, hi, hb, hb2⟩; refine ⟨_, rfl, ?_⟩; replace HB := sd_ (hb); have HI445 := sd_ (hi); have NB445_441 := sd_ (IsS96.ne_blk hi (bb_ BK441.out hb2) (by decide)); have NB441_445 := sd_ (Ne.symm (IsS96.ne_blk hi (bb_ BK441.out hb2) (by decide))); replace BK441 := sd_ (bb_ BK441.out hb2); (try clear hb); (try clear hb2); (try clear hi)) | ((with_reducible refine gate_callee (f := 99) rfl ?_); refine goesL_ (some 7) rfl rfl Try.func99 (by kernel_rfl) rfl #[.pointer (some ⟨g445, 0, none⟩), .int .i64 5] rfl la_ ?_; (with_reducible refine (spec_l1Once.calls g445 t442 t443 t444 5 t446 t447 t448 w _ ?side1 ?side2 A3.out).mono ?_); (case side1 => repeat (first | (with_reducible first | exact HI445.out | apply IsS96.alloc | apply IsS96.drewN | apply IsS96.drew | apply IsS96.set_1 | apply IsS96.set_2 | refine IsS96.far ?_ NB445_441.out _) | exact HI445.out)); (case side2 => repeat (first | (with_reducible first | exact HB.out | apply below_alloc | apply pw_below_drewN | apply below_drew1 | refine below_set ?_ (IsS96.ge HI445.out) | refine below_set ?_ GE441.out) | exact HB.out)); rintro e w7 ⟨rfl, hi, hb, hk⟩; refine ⟨_, rfl, ?_⟩; replace BK441 := sd_ (KeepBut.blk hk (g' := gb441) (o := .cells #[.int .i64 0, .slice none 0 0, .slice none 0 0, .slice none 0 0] 27 (0, 0)) (bz_ BK441.out) NB441_445.out (by simp)); replace HB := sd_ (hb); replace HI445 := sd_ (hi); (try clear hb); (try clear hk); (try clear hi)))
 have H := HP4.out
 clear HP4
 by_cases c8 : t446 = true
 ·subst c8
  have H1 : ((spec_dAnySystem.f k t442 t447 t448).bind fun bt449 => (some (bt449.1, bt449.2.1, bt449.2.2.1, bt449.2.2.2.1))) = some (r1, r2, r3, r4) := by rw [if_pos rfl] at H; exact H
  clear H
  have H := H1
  clear H1
  replace H := Option.bind_eq_some_iff.mp H
  obtain ⟨⟨t449, t450, t453, t456, t459, t460⟩, A90, H⟩ := H
  try dsimp only at H
  have A9 := sd_ A90
  clear A90
  simp only [Option.some.injEq, Prod.mk.injEq] at H
  obtain ⟨rfl, rfl, rfl, rfl⟩ := H
  go_wp2_with (first | ((with_reducible refine gate_callee (f := 96) rfl ?_); refine goesL_ (some 9) rfl rfl Try.func96 (by kernel_rfl) rfl #[.pointer (some ⟨g445, 0, none⟩)] rfl la_ ?_; (with_reducible refine (spec_dAnySystem.calls k g445 t442 t447 t448 t449 t450 t453 t456 t459 t460 w _ ?side1 ?side2 A9.out).mono ?_); (case side1 => repeat (first | (with_reducible first | exact HI445.out | apply IsS96.alloc | apply IsS96.drewN | apply IsS96.drew | apply IsS96.set_1 | apply IsS96.set_2 | refine IsS96.far ?_ NB445_441.out _) | exact HI445.out)); (case side2 => repeat (first | (with_reducible first | exact HB.out | apply below_alloc | apply pw_below_drewN | apply below_drew1 | refine below_set ?_ (IsS96.ge HI445.out) | refine below_set ?_ GE441.out) | exact HB.out)); rintro e w10 ⟨v451, v454, v457, rfl, ho0, ho1, ho2, hi, hb, hk⟩; refine ⟨_, rfl, ?_⟩; replace BK441 := sd_ (KeepBut.blk hk (g' := gb441) (o := .cells #[.int .i64 0, .slice none 0 0, .slice none 0 0, .slice none 0 0] 27 (0, 0)) (bz_ BK441.out) NB441_445.out (by simp)); have HO452 := sd_ (Kd.R_lower ho0 (below_size (by repeat (first | (with_reducible first | exact HB.out | apply below_alloc | apply pw_below_drewN | apply below_drew1 | refine below_set ?_ (IsS96.ge HI445.out) | refine below_set ?_ GE441.out) | exact HB.out)))); have HO455 := sd_ (Kd.R_lower ho1 (below_size (by repeat (first | (with_reducible first | exact HB.out | apply below_alloc | apply pw_below_drewN | apply below_drew1 | refine below_set ?_ (IsS96.ge HI445.out) | refine below_set ?_ GE441.out) | exact HB.out)))); have HO458 := sd_ (Kd.R_lower ho2 (below_size (by repeat (first | (with_reducible first | exact HB.out | apply below_alloc | apply pw_below_drewN | apply below_drew1 | refine below_set ?_ (IsS96.ge HI445.out) | refine below_set ?_ GE441.out) | exact HB.out)))); replace HB := sd_ (hb); replace HI445 := sd_ (hi); (try clear hb); (try clear hk); (try clear hi); (try clear ho0); (try clear ho1); (try clear ho2); have hnb11 := NB441_445.out; have hnc11 := NB445_441.out; obtain ⟨hcz12_0, hcz12_1, hcz12_2, hcz12_3, hfz12_0, hfz12_1, hfz12_2, hfz12_3⟩ := bf4_ BK441.out; obtain ⟨Ao13, co13, eo13⟩ := Kd.R_slice HO452.out; subst eo13; obtain ⟨Ao14, co14, eo14⟩ := Kd.R_slice HO455.out; subst eo14; obtain ⟨Ao15, co15, eo15⟩ := Kd.R_slice HO458.out; subst eo15))
  refine bodyPost_ret (results_cell_row rfl _ _ gb441 27 #[.int .i64 t449, .slice Ao13 t450.length co13, .slice Ao14 t453.length co14, .slice Ao15 t456.length co15] (0, 0) _ rfl (by (with_reducible repeat (first | refine blk_drewN ?_ _ | refine blk_drew ?_ | refine blk_alloc ?_ _)); refine blk_put (cs := #[.int .i64 t449, .slice Ao13 t450.length co13, .slice Ao14 t453.length co14, .slice none 0 0]) ?_ 3 _ rfl; (with_reducible repeat (first | refine blk_drewN ?_ _ | refine blk_drew ?_ | refine blk_alloc ?_ _)); refine blk_put (cs := #[.int .i64 t449, .slice Ao13 t450.length co13, .slice none 0 0, .slice none 0 0]) ?_ 2 _ rfl; (with_reducible repeat (first | refine blk_drewN ?_ _ | refine blk_drew ?_ | refine blk_alloc ?_ _)); refine blk_put (cs := #[.int .i64 t449, .slice none 0 0, .slice none 0 0, .slice none 0 0]) ?_ 1 _ rfl; (with_reducible repeat (first | refine blk_drewN ?_ _ | refine blk_drew ?_ | refine blk_alloc ?_ _)); refine blk_put (cs := #[.int .i64 0, .slice none 0 0, .slice none 0 0, .slice none 0 0]) ?_ 0 _ rfl; exact bz_ BK441.out) Try.underlying27 rfl (by kernel_rfl)) rfl ?_
  exact ⟨_, _, _, an_, by (with_reducible repeat (first | apply Kd.R_alloc | apply Kd.R_drewN | apply Kd.R_drew)); exact rf_ HO452.out BK441.out, by (with_reducible repeat (first | apply Kd.R_alloc | apply Kd.R_drewN | apply Kd.R_drew)); exact rf_ HO455.out BK441.out, by (with_reducible repeat (first | apply Kd.R_alloc | apply Kd.R_drewN | apply Kd.R_drew)); exact Kd.R_mono (Kd.R_far (p := ⟨gb441, 3, none⟩) (Kd.R_far (p := ⟨gb441, 2, none⟩) (Kd.R_far (p := ⟨gb441, 1, none⟩) (Kd.R_far (p := ⟨gb441, 0, none⟩) (Kd.R_types HO458.out BK441.out (by decide)) (fun _ hk => hk.2) (.int .i64 t449)) (fun _ hk => hk.2) (.slice Ao13 t450.length co13)) (fun _ hk => hk.2) (.slice Ao14 t453.length co14)) (fun _ hk => hk.2) (.slice Ao15 t456.length co15)) (fun _ hk => trivial), by repeat (first | (with_reducible first | exact HB.out | apply below_alloc | apply pw_below_drewN | apply below_drew1 | refine below_set ?_ (IsS96.ge HI445.out) | refine below_set ?_ GE441.out) | exact HB.out)⟩
 replace c8 := Bool.eq_false_iff.mpr c8
 subst c8
 have H1 : ((spec_dSystem.f k t442 t447 t448).bind fun bt461 => (some (bt461.1, bt461.2.1, bt461.2.2.1, bt461.2.2.2.1))) = some (r1, r2, r3, r4) := by rw [if_neg (show ¬ (false = true) by decide)] at H; exact H
 clear H
 have H := H1
 clear H1
 replace H := Option.bind_eq_some_iff.mp H
 obtain ⟨⟨t461, t462, t465, t468, t471, t472⟩, A160, H⟩ := H
 try dsimp only at H
 have A16 := sd_ A160
 clear A160
 simp only [Option.some.injEq, Prod.mk.injEq] at H
 obtain ⟨rfl, rfl, rfl, rfl⟩ := H
 go_wp2_with (first | ((with_reducible refine gate_callee (f := 100) rfl ?_); refine goesL_ (some 11) rfl rfl Try.func100 (by kernel_rfl) rfl #[.pointer (some ⟨g445, 0, none⟩)] rfl la_ ?_; (with_reducible refine (spec_dSystem.calls k g445 t442 t447 t448 t461 t462 t465 t468 t471 t472 w _ ?side1 ?side2 A16.out).mono ?_); (case side1 => repeat (first | (with_reducible first | exact HI445.out | apply IsS96.alloc | apply IsS96.drewN | apply IsS96.drew | apply IsS96.set_1 | apply IsS96.set_2 | refine IsS96.far ?_ NB445_441.out _) | exact HI445.out)); (case side2 => repeat (first | (with_reducible first | exact HB.out | apply below_alloc | apply pw_below_drewN | apply below_drew1 | refine below_set ?_ (IsS96.ge HI445.out) | refine below_set ?_ GE441.out) | exact HB.out)); rintro e w17 ⟨v463, v466, v469, rfl, ho0, ho1, ho2, hi, hb, hk⟩; refine ⟨_, rfl, ?_⟩; replace BK441 := sd_ (KeepBut.blk hk (g' := gb441) (o := .cells #[.int .i64 0, .slice none 0 0, .slice none 0 0, .slice none 0 0] 27 (0, 0)) (bz_ BK441.out) NB441_445.out (by simp)); have HO464 := sd_ (Kd.R_lower ho0 (below_size (by repeat (first | (with_reducible first | exact HB.out | apply below_alloc | apply pw_below_drewN | apply below_drew1 | refine below_set ?_ (IsS96.ge HI445.out) | refine below_set ?_ GE441.out) | exact HB.out)))); have HO467 := sd_ (Kd.R_lower ho1 (below_size (by repeat (first | (with_reducible first | exact HB.out | apply below_alloc | apply pw_below_drewN | apply below_drew1 | refine below_set ?_ (IsS96.ge HI445.out) | refine below_set ?_ GE441.out) | exact HB.out)))); have HO470 := sd_ (Kd.R_lower ho2 (below_size (by repeat (first | (with_reducible first | exact HB.out | apply below_alloc | apply pw_below_drewN | apply below_drew1 | refine below_set ?_ (IsS96.ge HI445.out) | refine below_set ?_ GE441.out) | exact HB.out)))); replace HB := sd_ (hb); replace HI445 := sd_ (hi); (try clear hb); (try clear hk); (try clear hi); (try clear ho0); (try clear ho1); (try clear ho2); have hnb18 := NB441_445.out; have hnc18 := NB445_441.out; obtain ⟨hcz19_0, hcz19_1, hcz19_2, hcz19_3, hfz19_0, hfz19_1, hfz19_2, hfz19_3⟩ := bf4_ BK441.out; obtain ⟨Ao20, co20, eo20⟩ := Kd.R_slice HO464.out; subst eo20; obtain ⟨Ao21, co21, eo21⟩ := Kd.R_slice HO467.out; subst eo21; obtain ⟨Ao22, co22, eo22⟩ := Kd.R_slice HO470.out; subst eo22))
 refine bodyPost_ret (results_cell_row rfl _ _ gb441 27 #[.int .i64 t461, .slice Ao20 t462.length co20, .slice Ao21 t465.length co21, .slice Ao22 t468.length co22] (0, 0) _ rfl (by (with_reducible repeat (first | refine blk_drewN ?_ _ | refine blk_drew ?_ | refine blk_alloc ?_ _)); refine blk_put (cs := #[.int .i64 t461, .slice Ao20 t462.length co20, .slice Ao21 t465.length co21, .slice none 0 0]) ?_ 3 _ rfl; (with_reducible repeat (first | refine blk_drewN ?_ _ | refine blk_drew ?_ | refine blk_alloc ?_ _)); refine blk_put (cs := #[.int .i64 t461, .slice Ao20 t462.length co20, .slice none 0 0, .slice none 0 0]) ?_ 2 _ rfl; (with_reducible repeat (first | refine blk_drewN ?_ _ | refine blk_drew ?_ | refine blk_alloc ?_ _)); refine blk_put (cs := #[.int .i64 t461, .slice none 0 0, .slice none 0 0, .slice none 0 0]) ?_ 1 _ rfl; (with_reducible repeat (first | refine blk_drewN ?_ _ | refine blk_drew ?_ | refine blk_alloc ?_ _)); refine blk_put (cs := #[.int .i64 0, .slice none 0 0, .slice none 0 0, .slice none 0 0]) ?_ 0 _ rfl; exact bz_ BK441.out) Try.underlying27 rfl (by kernel_rfl)) rfl ?_
 exact ⟨_, _, _, an_, by (with_reducible repeat (first | apply Kd.R_alloc | apply Kd.R_drewN | apply Kd.R_drew)); exact rf_ HO464.out BK441.out, by (with_reducible repeat (first | apply Kd.R_alloc | apply Kd.R_drewN | apply Kd.R_drew)); exact rf_ HO467.out BK441.out, by (with_reducible repeat (first | apply Kd.R_alloc | apply Kd.R_drewN | apply Kd.R_drew)); exact Kd.R_mono (Kd.R_far (p := ⟨gb441, 3, none⟩) (Kd.R_far (p := ⟨gb441, 2, none⟩) (Kd.R_far (p := ⟨gb441, 1, none⟩) (Kd.R_far (p := ⟨gb441, 0, none⟩) (Kd.R_types HO470.out BK441.out (by decide)) (fun _ hk => hk.2) (.int .i64 t461)) (fun _ hk => hk.2) (.slice Ao20 t462.length co20)) (fun _ hk => hk.2) (.slice Ao21 t465.length co21)) (fun _ hk => hk.2) (.slice Ao22 t468.length co22)) (fun _ hk => trivial), by repeat (first | (with_reducible first | exact HB.out | apply below_alloc | apply pw_below_drewN | apply below_drew1 | refine below_set ?_ (IsS96.ge HI445.out) | refine below_set ?_ GE441.out) | exact HB.out)⟩

end Go.Proofs.Ytcdmnofomoadlaa.P
