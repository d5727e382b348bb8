-- Printed by this session's own program (wip/tools/mkprint.py) out of the translation. Not trusted: Lean checks it.
import Derived.Test.YtcdmnofomoadlaaM1
import Derived.Test.YtcdmnofomoadlaaPf106
import Derived.Test.YtcdmnofomoadlaaPf55
import Derived.Laws.EntriesVeiled
/-! short words -/
namespace Go.Proofs.Ytcdmnofomoadlaa.P
open Go.RowKit Go.Proofs.YtcdmnofomoadlaaW.PrintWords Go.Proofs.YtcdmnofomoadlaaW.PrintLast Go.Proofs.YtcdmnofomoadlaaW.PrintMore
attribute [local go_sem] max2_int min2_int max_two min_two max_three min_three max_four min_four   -- for this text's walks alone
set_option linter.unusedVariables false
set_option linter.unusedSimpArgs false

/-! ### impl_BoundSystem: function 43 -/
def impl_BoundSystem.f (k : Nat) (a0 : Int) : Option (Int × List Int × List Int × List Bool) := (impl_within.f a0 1 14).bind fun t687 => (if t687 = true then ((impl_counted.f k a0 (fun z0_ z1_ => impl_BoundSystem_1.f z0_ z1_)).bind fun bt688 => (some (bt688.1, bt688.2.1, bt688.2.2.1, bt688.2.2.2))) else (some (0, ([] : List Int), ([] : List Int), ([] : List Bool))))
set_option maxHeartbeats 8000000 in
set_option maxRecDepth 100000 in
theorem impl_BoundSystem.calls (k : Nat) (a0 : Int) (r1 : Int) (r2 : List Int) (r3 : List Int) (r4 : List Bool) (w : World) (h : impl_BoundSystem.f k a0 = some (r1, r2, r3, r4)) :
  Calls Try.prog 43 #[.int .i64 a0] w fun e w' => ∃ v1_ v2_ v3_ : Value, e = .returned (.agg #[.int .i64 r1, v1_, v2_, v3_]) ∧ Kd.R (Kd.int .i64) 3 w' w.heap.size (fun k_ => some k_ ≠ (v2_ : Value).ownBlock) v1_ r2 ∧ Kd.R (Kd.int .i64) 3 w' w.heap.size (fun k_ => some k_ ≠ (v1_ : Value).ownBlock) v2_ r3 ∧ Kd.R Kd.bool 4 w' w.heap.size (fun _ => True) v3_ r4 ∧ Below w.heap.size w w' := by
 have hu27 := Try.underlying27
 have HB := sd_ (Below.refl w.heap.size w)
 have H : ((impl_within.f a0 1 14).bind fun t687 => (if t687 = true then ((impl_counted.f k a0 (fun z0_ z1_ => impl_BoundSystem_1.f z0_ z1_)).bind fun bt688 => (some (bt688.1, bt688.2.1, bt688.2.2.1, bt688.2.2.2))) else (some (0, ([] : List Int), ([] : List Int), ([] : List Bool))))) = some (r1, r2, r3, r4) := h
 clear h
 replace H := Option.bind_eq_some_iff.mp H
 obtain ⟨t687, A20, H⟩ := H
 try dsimp only at H
 have A2 := sd_ A20
 clear A20
 have HP3 := sd_ H
 clear H
 go_enter Try.func43, Try.ntmps43
 go_upto_if 5 with (first | ((with_reducible refine gate_dst (N := 2) rfl ?_); refine bx_ (N := 2) (cs := #[.int .i64 0, .slice none 0 0, .slice none 0 0, .slice none 0 0]) (t := 27) ?_; intro gb686 hg w4 hbox hb; have BK686 := sd_ (hbox); have GW686 := sd_ (gs_ hg (bw0_ HB.out)); have GE686 := sd_ (gs_ hg (bw0_ HB.out)); replace HB := sd_ (below_step (bw0_ HB.out) hb); clear hb hbox hg) | ((with_reducible refine gate_callee (f := 54) rfl ?_); refine goesL_ (some 4) rfl rfl Try.func54 (by kernel_rfl) rfl #[.int .i64 a0, .int .i64 1, .int .i64 14] rfl la_ ?_; (with_reducible refine (impl_within.calls a0 1 14 t687 _ A2.out).mono ?_); rintro e w' ⟨rfl, ⟨nd, rfl⟩⟩; refine ⟨_, rfl, ?_⟩))
 have H := HP3.out
 clear HP3
 by_cases c5 : t687 = true
 ·subst c5
  have H1 : ((impl_counted.f k a0 (fun z0_ z1_ => impl_BoundSystem_1.f z0_ z1_)).bind fun bt688 => (some (bt688.1, bt688.2.1, bt688.2.2.1, bt688.2.2.2))) = some (r1, r2, r3, r4) := by rw [if_pos rfl] at H; exact H
  clear H
  have H := H1
  clear H1
  replace H := Option.bind_eq_some_iff.mp H
  obtain ⟨⟨t688, t689, t692, t695⟩, A60, H⟩ := H
  try dsimp only at H
  have A6 := sd_ A60
  clear A60
  simp only [Option.some.injEq, Prod.mk.injEq] at H
  obtain ⟨rfl, rfl, rfl, rfl⟩ := H
  go_wp2_with (first | ((with_reducible refine gate_callee (f := 55) rfl ?_); refine goesL_ (some 8) rfl rfl Try.func55 (by kernel_rfl) rfl #[.int .i64 a0, .func (.func 106) #[] #[]] rfl la_ ?_; (with_reducible refine (impl_counted.calls k a0 (fun z0_ z1_ => impl_BoundSystem_1.f z0_ z1_) 106 #[] #[] t688 t689 t692 t695 _ ?side1 ?side2 A6.out).mono ?_); (case side1 => exact ⟨_, Try.func106, (by kernel_rfl), rfl⟩); (case side2 => intro z0_0 z1_0 rr0_0 w9_0  hb9_0 h9_0; refine calls_of_args (args' := #[.int .i64 z0_0, .int .i64 z1_0]) (by first | rfl | simp) ?_; refine (impl_BoundSystem_1.calls z0_0 z1_0 rr0_0 w9_0  h9_0).mono ?_; exact fun _ _ h_ => ⟨h_.1, h_.2.below⟩); rintro e w7 ⟨v690, v693, v696, rfl, ho0, ho1, ho2, hb⟩; refine ⟨_, rfl, ?_⟩; have HO691 := sd_ (Kd.R_lower ho0 (below_size (bw1_ HB.out GE686.out))); have HO694 := sd_ (Kd.R_lower ho1 (below_size (bw1_ HB.out GE686.out))); have HO697 := sd_ (Kd.R_lower ho2 (below_size (bw1_ HB.out GE686.out))); replace BK686 := sd_ (bb_ BK686.out hb); replace HB := sd_ (below_step (bw1_ HB.out GE686.out) hb); (try clear hb); (try clear ho0); (try clear ho1); (try clear ho2); obtain ⟨hcz8_0, hcz8_1, hcz8_2, hcz8_3, hfz8_0, hfz8_1, hfz8_2, hfz8_3⟩ := bf4_ BK686.out; obtain ⟨Ao9, co9, eo9⟩ := Kd.R_slice HO691.out; subst eo9; obtain ⟨Ao10, co10, eo10⟩ := Kd.R_slice HO694.out; subst eo10; obtain ⟨Ao11, co11, eo11⟩ := Kd.R_slice HO697.out; subst eo11))
  refine bodyPost_ret (results_cell_row rfl _ _ gb686 27 #[.int .i64 t688, .slice Ao9 t689.length co9, .slice Ao10 t692.length co10, .slice Ao11 t695.length co11] (0, 0) _ rfl (by (with_reducible repeat (first | refine blk_drewN ?_ _ | refine blk_drew ?_ | refine blk_alloc ?_ _)); refine blk_put (cs := #[.int .i64 t688, .slice Ao9 t689.length co9, .slice Ao10 t692.length co10, .slice none 0 0]) ?_ 3 _ rfl; (with_reducible repeat (first | refine blk_drewN ?_ _ | refine blk_drew ?_ | refine blk_alloc ?_ _)); refine blk_put (cs := #[.int .i64 t688, .slice Ao9 t689.length co9, .slice none 0 0, .slice none 0 0]) ?_ 2 _ rfl; (with_reducible repeat (first | refine blk_drewN ?_ _ | refine blk_drew ?_ | refine blk_alloc ?_ _)); refine blk_put (cs := #[.int .i64 t688, .slice none 0 0, .slice none 0 0, .slice none 0 0]) ?_ 1 _ rfl; (with_reducible repeat (first | refine blk_drewN ?_ _ | refine blk_drew ?_ | refine blk_alloc ?_ _)); refine blk_put (cs := #[.int .i64 0, .slice none 0 0, .slice none 0 0, .slice none 0 0]) ?_ 0 _ rfl; exact bz_ BK686.out) Try.underlying27 rfl (by kernel_rfl)) rfl ?_
  exact ⟨_, _, _, an_, by (with_reducible repeat (first | apply Kd.R_alloc | apply Kd.R_drewN | apply Kd.R_drew)); exact Kd.R_mono (Kd.R_far (p := ⟨gb686, 3, none⟩) (Kd.R_far (p := ⟨gb686, 2, none⟩) (Kd.R_far (p := ⟨gb686, 1, none⟩) (Kd.R_far (p := ⟨gb686, 0, none⟩) (Kd.R_types HO691.out BK686.out (by decide)) (fun _ hk => hk.2) (.int .i64 t688)) (fun _ hk => hk.2) (.slice Ao9 t689.length co9)) (fun _ hk => hk.2) (.slice Ao10 t692.length co10)) (fun _ hk => hk.2) (.slice Ao11 t695.length co11)) (fun _ hk => hk.1), by (with_reducible repeat (first | apply Kd.R_alloc | apply Kd.R_drewN | apply Kd.R_drew)); exact Kd.R_mono (Kd.R_far (p := ⟨gb686, 3, none⟩) (Kd.R_far (p := ⟨gb686, 2, none⟩) (Kd.R_far (p := ⟨gb686, 1, none⟩) (Kd.R_far (p := ⟨gb686, 0, none⟩) (Kd.R_types HO694.out BK686.out (by decide)) (fun _ hk => hk.2) (.int .i64 t688)) (fun _ hk => hk.2) (.slice Ao9 t689.length co9)) (fun _ hk => hk.2) (.slice Ao10 t692.length co10)) (fun _ hk => hk.2) (.slice Ao11 t695.length co11)) (fun _ hk => hk.1), by (with_reducible repeat (first | apply Kd.R_alloc | apply Kd.R_drewN | apply Kd.R_drew)); exact Kd.R_mono (Kd.R_far (p := ⟨gb686, 3, none⟩) (Kd.R_far (p := ⟨gb686, 2, none⟩) (Kd.R_far (p := ⟨gb686, 1, none⟩) (Kd.R_far (p := ⟨gb686, 0, none⟩) (Kd.R_types HO697.out BK686.out (by decide)) (fun _ hk => hk.2) (.int .i64 t688)) (fun _ hk => hk.2) (.slice Ao9 t689.length co9)) (fun _ hk => hk.2) (.slice Ao10 t692.length co10)) (fun _ hk => hk.2) (.slice Ao11 t695.length co11)) (fun _ hk => trivial), bw1_ HB.out GE686.out⟩
 replace c5 := Bool.eq_false_iff.mpr c5
 subst c5
 have H1 : (some (0, ([] : List Int), ([] : List Int), ([] : List Bool))) = some (r1, r2, r3, r4) := by rw [if_neg (show ¬ (false = true) by decide)] at H; exact H
 clear H
 have H := H1
 clear H1
 simp only [Option.some.injEq, Prod.mk.injEq] at H
 obtain ⟨rfl, rfl, rfl, rfl⟩ := H
 obtain ⟨hcz12_0, hcz12_1, hcz12_2, hcz12_3, hfz12_0, hfz12_1, hfz12_2, hfz12_3⟩ := bf4_ BK686.out
 go_wp2
 refine bodyPost_ret (results_cell_row rfl _ _ gb686 27 #[.int .i64 0, .slice none 0 0, .slice none 0 0, .slice none 0 0] (0, 0) _ rfl (by (with_reducible repeat (first | refine blk_drewN ?_ _ | refine blk_drew ?_ | refine blk_alloc ?_ _)); refine blk_put (cs := #[.int .i64 0, .slice none 0 0, .slice none 0 0, .slice none 0 0]) ?_ 3 _ rfl; (with_reducible repeat (first | refine blk_drewN ?_ _ | refine blk_drew ?_ | refine blk_alloc ?_ _)); refine blk_put (cs := #[.int .i64 0, .slice none 0 0, .slice none 0 0, .slice none 0 0]) ?_ 2 _ rfl; (with_reducible repeat (first | refine blk_drewN ?_ _ | refine blk_drew ?_ | refine blk_alloc ?_ _)); refine blk_put (cs := #[.int .i64 0, .slice none 0 0, .slice none 0 0, .slice none 0 0]) ?_ 1 _ rfl; (with_reducible repeat (first | refine blk_drewN ?_ _ | refine blk_drew ?_ | refine blk_alloc ?_ _)); refine blk_put (cs := #[.int .i64 0, .slice none 0 0, .slice none 0 0, .slice none 0 0]) ?_ 0 _ rfl; exact bz_ BK686.out) Try.underlying27 rfl (by kernel_rfl)) rfl ?_
 exact ⟨_, _, _, an_, by first | exact Kd.R_nil _ _ _ _ _ | exact Kd.N_nil _ _ _ _ _ | exact Kd.V_nil _ _ _ _ _ | exact Kd.Q_nil _ _ _ _ _ | exact Kd.S_nil _ _ _ _ _, by first | exact Kd.R_nil _ _ _ _ _ | exact Kd.N_nil _ _ _ _ _ | exact Kd.V_nil _ _ _ _ _ | exact Kd.Q_nil _ _ _ _ _ | exact Kd.S_nil _ _ _ _ _, by first | exact Kd.R_nil _ _ _ _ _ | exact Kd.N_nil _ _ _ _ _ | exact Kd.V_nil _ _ _ _ _ | exact Kd.Q_nil _ _ _ _ _ | exact Kd.S_nil _ _ _ _ _, bw1_ HB.out GE686.out⟩

end Go.Proofs.Ytcdmnofomoadlaa.P
