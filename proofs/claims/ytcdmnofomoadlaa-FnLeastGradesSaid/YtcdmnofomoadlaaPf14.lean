-- Printed by this session's own program (wip/tools/mkprint.py) out of the translation. Not trusted: Lean checks it.
import Derived.Test.YtcdmnofomoadlaaM1
import Derived.Test.YtcdmnofomoadlaaPf55
import Derived.Test.YtcdmnofomoadlaaPf56
import Derived.Laws.EntriesVeiled
/-! short words -/
namespace Go.Proofs.Ytcdmnofomoadlaa.P
open Go.RowKit Go.Proofs.YtcdmnofomoadlaaW.PrintWords Go.Proofs.YtcdmnofomoadlaaW.PrintLast Go.Proofs.YtcdmnofomoadlaaW.PrintMore
attribute [local go_sem] max2_int min2_int max_two min_two max_three min_three max_four min_four   -- for this text's walks alone
set_option linter.unusedVariables false
set_option linter.unusedSimpArgs false

/-! ### impl_CountSystem: function 14 -/
def impl_CountSystem.f (k : Nat) (a0 : Int) : Option (Int × List Int × List Int × List Bool) := (impl_within.f a0 1 14).bind fun t632 => (if t632 = true then ((impl_counted.f k a0 (fun z0_ z1_ => impl_CountSystem_1.f z0_ z1_ a0)).bind fun bt633 => (some (bt633.1, bt633.2.1, bt633.2.2.1, bt633.2.2.2))) else (some (0, ([] : List Int), ([] : List Int), ([] : List Bool))))
set_option maxHeartbeats 8000000 in
set_option maxRecDepth 100000 in
theorem impl_CountSystem.calls (k : Nat) (a0 : Int) (r1 : Int) (r2 : List Int) (r3 : List Int) (r4 : List Bool) (w : World) (h : impl_CountSystem.f k a0 = some (r1, r2, r3, r4)) :
  Calls Try.prog 14 #[.int .i64 a0] w fun e w' => ∃ v1_ v2_ v3_ : Value, e = .returned (.agg #[.int .i64 r1, v1_, v2_, v3_]) ∧ Kd.R (Kd.int .i64) 3 w' w.heap.size (fun k_ => some k_ ≠ (v2_ : Value).ownBlock) v1_ r2 ∧ Kd.R (Kd.int .i64) 3 w' w.heap.size (fun k_ => some k_ ≠ (v1_ : Value).ownBlock) v2_ r3 ∧ Kd.R Kd.bool 4 w' w.heap.size (fun _ => True) v3_ r4 ∧ Below w.heap.size w w' := by
 have hu27 := Try.underlying27
 have HB := sd_ (Below.refl w.heap.size w)
 have H : ((impl_within.f a0 1 14).bind fun t632 => (if t632 = true then ((impl_counted.f k a0 (fun z0_ z1_ => impl_CountSystem_1.f z0_ z1_ a0)).bind fun bt633 => (some (bt633.1, bt633.2.1, bt633.2.2.1, bt633.2.2.2))) else (some (0, ([] : List Int), ([] : List Int), ([] : List Bool))))) = some (r1, r2, r3, r4) := h
 clear h
 replace H := Option.bind_eq_some_iff.mp H
 obtain ⟨t632, A20, H⟩ := H
 try dsimp only at H
 have A2 := sd_ A20
 clear A20
 have HP3 := sd_ H
 clear H
 go_enter Try.func14, Try.ntmps14
 go_upto_if 5 with (first | ((with_reducible refine gate_dst (N := 1) rfl ?_); refine bx_ (N := 1) (cs := #[.int .i64 a0]) (t := 3) ?_; intro gb630 hg w4 hbox hb; have BK630 := sd_ (hbox); have GW630 := sd_ (gs_ hg (bw0_ HB.out)); have GE630 := sd_ (gs_ hg (bw0_ HB.out)); replace HB := sd_ (below_step (bw0_ HB.out) hb); clear hb hbox hg) | ((with_reducible refine gate_dst (N := 2) rfl ?_); refine bx_ (N := 2) (cs := #[.int .i64 0, .slice none 0 0, .slice none 0 0, .slice none 0 0]) (t := 27) ?_; intro gb631 hg w5 hbox hb; have BK631 := sd_ (hbox); have GW631 := sd_ (gs_ hg (bw1_ HB.out GE630.out)); have GE631 := sd_ (gs_ hg (bw1_ HB.out GE630.out)); replace HB := sd_ (below_step (bw1_ HB.out GE630.out) hb); have NB630_631 := sd_ (nl_ hg (bl_ BK630.out)); have NB631_630 := sd_ (ng_ hg (bl_ BK630.out)); replace BK630 := sd_ (bb_ BK630.out hb); clear hb hbox hg; have hnb6 := NB630_631.out; have hnc6 := NB631_630.out; have hcz7_0 : w5.cell? ⟨gb630, 0, none⟩ = some (.int .i64 a0) := (blk_cell BK630.out 0).trans rfl; have hfz7_0 := blk_frozen BK630.out 0) | ((with_reducible refine gate_callee (f := 54) rfl ?_); refine goesL_ (some 4) rfl rfl Try.func54 (by kernel_rfl) rfl #[.int .i64 a0, .int .i64 1, .int .i64 14] rfl la_ ?_; (with_reducible refine (impl_within.calls a0 1 14 t632 _ A2.out).mono ?_); rintro e w' ⟨rfl, ⟨nd, rfl⟩⟩; refine ⟨_, rfl, ?_⟩))
 have H := HP3.out
 clear HP3
 by_cases c8 : t632 = true
 ·subst c8
  have H1 : ((impl_counted.f k a0 (fun z0_ z1_ => impl_CountSystem_1.f z0_ z1_ a0)).bind fun bt633 => (some (bt633.1, bt633.2.1, bt633.2.2.1, bt633.2.2.2))) = some (r1, r2, r3, r4) := by rw [if_pos rfl] at H; exact H
  clear H
  have H := H1
  clear H1
  replace H := Option.bind_eq_some_iff.mp H
  obtain ⟨⟨t633, t634, t637, t640⟩, A90, H⟩ := H
  try dsimp only at H
  have A9 := sd_ A90
  clear A90
  simp only [Option.some.injEq, Prod.mk.injEq] at H
  obtain ⟨rfl, rfl, rfl, rfl⟩ := H
  have hnb10 := NB630_631.out
  have hnc10 := NB631_630.out
  have hcz11_0 : w5.cell? ⟨gb630, 0, none⟩ = some (.int .i64 a0) := (blk_cell BK630.out 0).trans rfl
  have hfz11_0 := blk_frozen BK630.out 0
  go_wp2_with (first | ((with_reducible refine gate_callee (f := 55) rfl ?_); refine goesL_ (some 9) rfl rfl Try.func55 (by kernel_rfl) rfl #[.int .i64 a0, .func (.func 56) #[] #[.pointer (some ⟨gb630, 0, none⟩)]] rfl la_ ?_; (with_reducible refine (impl_counted.calls k a0 (fun z0_ z1_ => impl_CountSystem_1.f z0_ z1_ a0) 56 #[] #[.pointer (some ⟨gb630, 0, none⟩)] t633 t634 t637 t640 _ ?side1 ?side2 A9.out).mono ?_); (case side1 => exact ⟨_, Try.func56, (by kernel_rfl), rfl⟩); (case side2 => intro z0_0 z1_0 rr0_0 w9_0  hb9_0 h9_0; refine calls_of_args (args' := #[.int .i64 z0_0, .int .i64 z1_0, .pointer (some ⟨gb630, 0, none⟩)]) (by first | rfl | simp) ?_; refine (impl_CountSystem_1.calls z0_0 z1_0 gb630 a0 rr0_0 w9_0 (blk_below (bz_ BK630.out) hb9_0) h9_0).mono ?_; exact fun _ _ h_ => ⟨h_.1, h_.2.below⟩); rintro e w12 ⟨v635, v638, v641, rfl, ho0, ho1, ho2, hb⟩; refine ⟨_, rfl, ?_⟩; have HO636 := sd_ (Kd.R_lower (Kd.R_newB ho0 (g := gb630) (o := .cells #[.int .i64 a0] 3 (0, 0)) (bz_ BK630.out)) (below_size (bw2_ HB.out GE630.out GE631.out))); have HO639 := sd_ (Kd.R_lower (Kd.R_newB ho1 (g := gb630) (o := .cells #[.int .i64 a0] 3 (0, 0)) (bz_ BK630.out)) (below_size (bw2_ HB.out GE630.out GE631.out))); have HO642 := sd_ (Kd.R_lower ho2 (below_size (bw2_ HB.out GE630.out GE631.out))); replace BK630 := sd_ (bb_ BK630.out hb); replace BK631 := sd_ (bb_ BK631.out hb); replace HB := sd_ (below_step (bw2_ HB.out GE630.out GE631.out) hb); (try clear hb); (try clear ho0); (try clear ho1); (try clear ho2); obtain ⟨hcz13_0, hcz13_1, hcz13_2, hcz13_3, hfz13_0, hfz13_1, hfz13_2, hfz13_3⟩ := bf4_ BK631.out; obtain ⟨Ao14, co14, eo14⟩ := Kd.R_slice HO636.out; subst eo14; obtain ⟨Ao15, co15, eo15⟩ := Kd.R_slice HO639.out; subst eo15; obtain ⟨Ao16, co16, eo16⟩ := Kd.R_slice HO642.out; subst eo16))
  refine bodyPost_ret (results_cell_row rfl _ _ gb631 27 #[.int .i64 t633, .slice Ao14 t634.length co14, .slice Ao15 t637.length co15, .slice Ao16 t640.length co16] (0, 0) _ rfl (by (with_reducible repeat (first | refine blk_drewN ?_ _ | refine blk_drew ?_ | refine blk_alloc ?_ _)); refine blk_put (cs := #[.int .i64 t633, .slice Ao14 t634.length co14, .slice Ao15 t637.length co15, .slice none 0 0]) ?_ 3 _ rfl; (with_reducible repeat (first | refine blk_drewN ?_ _ | refine blk_drew ?_ | refine blk_alloc ?_ _)); refine blk_put (cs := #[.int .i64 t633, .slice Ao14 t634.length co14, .slice none 0 0, .slice none 0 0]) ?_ 2 _ rfl; (with_reducible repeat (first | refine blk_drewN ?_ _ | refine blk_drew ?_ | refine blk_alloc ?_ _)); refine blk_put (cs := #[.int .i64 t633, .slice none 0 0, .slice none 0 0, .slice none 0 0]) ?_ 1 _ rfl; (with_reducible repeat (first | refine blk_drewN ?_ _ | refine blk_drew ?_ | refine blk_alloc ?_ _)); refine blk_put (cs := #[.int .i64 0, .slice none 0 0, .slice none 0 0, .slice none 0 0]) ?_ 0 _ rfl; exact bz_ BK631.out) Try.underlying27 rfl (by kernel_rfl)) rfl ?_
  exact ⟨_, _, _, an_, by (with_reducible repeat (first | apply Kd.R_alloc | apply Kd.R_drewN | apply Kd.R_drew)); exact Kd.R_mono (Kd.R_far (p := ⟨gb631, 3, none⟩) (Kd.R_far (p := ⟨gb631, 2, none⟩) (Kd.R_far (p := ⟨gb631, 1, none⟩) (Kd.R_far (p := ⟨gb631, 0, none⟩) (Kd.R_types HO636.out BK631.out (by decide)) (fun _ hk => hk.2) (.int .i64 t633)) (fun _ hk => hk.2) (.slice Ao14 t634.length co14)) (fun _ hk => hk.2) (.slice Ao15 t637.length co15)) (fun _ hk => hk.2) (.slice Ao16 t640.length co16)) (fun _ hk => hk.1.1), by (with_reducible repeat (first | apply Kd.R_alloc | apply Kd.R_drewN | apply Kd.R_drew)); exact Kd.R_mono (Kd.R_far (p := ⟨gb631, 3, none⟩) (Kd.R_far (p := ⟨gb631, 2, none⟩) (Kd.R_far (p := ⟨gb631, 1, none⟩) (Kd.R_far (p := ⟨gb631, 0, none⟩) (Kd.R_types HO639.out BK631.out (by decide)) (fun _ hk => hk.2) (.int .i64 t633)) (fun _ hk => hk.2) (.slice Ao14 t634.length co14)) (fun _ hk => hk.2) (.slice Ao15 t637.length co15)) (fun _ hk => hk.2) (.slice Ao16 t640.length co16)) (fun _ hk => hk.1.1), by (with_reducible repeat (first | apply Kd.R_alloc | apply Kd.R_drewN | apply Kd.R_drew)); exact Kd.R_mono (Kd.R_far (p := ⟨gb631, 3, none⟩) (Kd.R_far (p := ⟨gb631, 2, none⟩) (Kd.R_far (p := ⟨gb631, 1, none⟩) (Kd.R_far (p := ⟨gb631, 0, none⟩) (Kd.R_types HO642.out BK631.out (by decide)) (fun _ hk => hk.2) (.int .i64 t633)) (fun _ hk => hk.2) (.slice Ao14 t634.length co14)) (fun _ hk => hk.2) (.slice Ao15 t637.length co15)) (fun _ hk => hk.2) (.slice Ao16 t640.length co16)) (fun _ hk => trivial), bw2_ HB.out GE630.out GE631.out⟩
 replace c8 := Bool.eq_false_iff.mpr c8
 subst c8
 have H1 : (some (0, ([] : List Int), ([] : List Int), ([] : List Bool))) = some (r1, r2, r3, r4) := by rw [if_neg (show ¬ (false = true) by decide)] at H; exact H
 clear H
 have H := H1
 clear H1
 simp only [Option.some.injEq, Prod.mk.injEq] at H
 obtain ⟨rfl, rfl, rfl, rfl⟩ := H
 have hnb17 := NB631_630.out
 have hnc17 := NB630_631.out
 obtain ⟨hcz18_0, hcz18_1, hcz18_2, hcz18_3, hfz18_0, hfz18_1, hfz18_2, hfz18_3⟩ := bf4_ BK631.out
 go_wp2
 refine bodyPost_ret (results_cell_row rfl _ _ gb631 27 #[.int .i64 0, .slice none 0 0, .slice none 0 0, .slice none 0 0] (0, 0) _ rfl (by (with_reducible repeat (first | refine blk_drewN ?_ _ | refine blk_drew ?_ | refine blk_alloc ?_ _)); refine blk_put (cs := #[.int .i64 0, .slice none 0 0, .slice none 0 0, .slice none 0 0]) ?_ 3 _ rfl; (with_reducible repeat (first | refine blk_drewN ?_ _ | refine blk_drew ?_ | refine blk_alloc ?_ _)); refine blk_put (cs := #[.int .i64 0, .slice none 0 0, .slice none 0 0, .slice none 0 0]) ?_ 2 _ rfl; (with_reducible repeat (first | refine blk_drewN ?_ _ | refine blk_drew ?_ | refine blk_alloc ?_ _)); refine blk_put (cs := #[.int .i64 0, .slice none 0 0, .slice none 0 0, .slice none 0 0]) ?_ 1 _ rfl; (with_reducible repeat (first | refine blk_drewN ?_ _ | refine blk_drew ?_ | refine blk_alloc ?_ _)); refine blk_put (cs := #[.int .i64 0, .slice none 0 0, .slice none 0 0, .slice none 0 0]) ?_ 0 _ rfl; exact bz_ BK631.out) Try.underlying27 rfl (by kernel_rfl)) rfl ?_
 exact ⟨_, _, _, an_, by first | exact Kd.R_nil _ _ _ _ _ | exact Kd.N_nil _ _ _ _ _ | exact Kd.V_nil _ _ _ _ _ | exact Kd.Q_nil _ _ _ _ _ | exact Kd.S_nil _ _ _ _ _, by first | exact Kd.R_nil _ _ _ _ _ | exact Kd.N_nil _ _ _ _ _ | exact Kd.V_nil _ _ _ _ _ | exact Kd.Q_nil _ _ _ _ _ | exact Kd.S_nil _ _ _ _ _, by first | exact Kd.R_nil _ _ _ _ _ | exact Kd.N_nil _ _ _ _ _ | exact Kd.V_nil _ _ _ _ _ | exact Kd.Q_nil _ _ _ _ _ | exact Kd.S_nil _ _ _ _ _, bw2_ HB.out GE630.out GE631.out⟩

end Go.Proofs.Ytcdmnofomoadlaa.P
