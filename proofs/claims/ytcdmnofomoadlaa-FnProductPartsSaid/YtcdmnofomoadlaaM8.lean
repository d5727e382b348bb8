-- Several texts in one (wip/tools/merge.py).
import Derived.Test.YtcdmnofomoadlaaM1
import Derived.Test.YtcdmnofomoadlaaM7
import Derived.Laws.EntriesVeiled
import Derived.Test.YtcdmnofomoadlaaM5
section
namespace Go.Proofs.Ytcdmnofomoadlaa.P
open Go.RowKit Go.Proofs.YtcdmnofomoadlaaW.PrintWords Go.Proofs.YtcdmnofomoadlaaW.PrintLast Go.Proofs.YtcdmnofomoadlaaW.PrintMore
attribute [local go_sem] max2_int min2_int max_two min_two max_three min_three max_four min_four   -- for this text's walks alone
set_option linter.unusedVariables false
set_option linter.unusedSimpArgs false

/-! ### impl_CountSystem: function 14 -/
def impl_CountSystem.f (k : Nat) (a0 : Int) : Option (Int × List Int × List Int × List Bool) := (impl_within.f a0 1 14).bind fun t129 => (if t129 = true then ((impl_counted.f k a0 (fun z0_ z1_ => impl_CountSystem_1.f z0_ z1_ a0)).bind fun bt130 => (some (bt130.1, bt130.2.1, bt130.2.2.1, bt130.2.2.2))) else (some (0, ([] : List Int), ([] : List Int), ([] : List Bool))))
set_option maxHeartbeats 8000000 in
set_option maxRecDepth 100000 in
theorem impl_CountSystem.calls (k : Nat) (a0 : Int) (r1 : Int) (r2 : List Int) (r3 : List Int) (r4 : List Bool) (w : World) (h : impl_CountSystem.f k a0 = some (r1, r2, r3, r4)) :
  Calls Try.prog 14 #[.int .i64 a0] w fun e w' => ∃ v1_ v2_ v3_ : Value, e = .returned (.agg #[.int .i64 r1, v1_, v2_, v3_]) ∧ Kd.R (Kd.int .i64) 3 w' w.heap.size (fun k_ => some k_ ≠ (v2_ : Value).ownBlock) v1_ r2 ∧ Kd.R (Kd.int .i64) 3 w' w.heap.size (fun k_ => some k_ ≠ (v1_ : Value).ownBlock) v2_ r3 ∧ Kd.R Kd.bool 4 w' w.heap.size (fun _ => True) v3_ r4 ∧ Below w.heap.size w w' := by
 have hu27 := Try.underlying27
 have HB := sd_ (Below.refl w.heap.size w)
 have H : ((impl_within.f a0 1 14).bind fun t129 => (if t129 = true then ((impl_counted.f k a0 (fun z0_ z1_ => impl_CountSystem_1.f z0_ z1_ a0)).bind fun bt130 => (some (bt130.1, bt130.2.1, bt130.2.2.1, bt130.2.2.2))) else (some (0, ([] : List Int), ([] : List Int), ([] : List Bool))))) = some (r1, r2, r3, r4) := h
 clear h
 replace H := Option.bind_eq_some_iff.mp H
 obtain ⟨t129, A20, H⟩ := H
 try dsimp only at H
 have A2 := sd_ A20
 clear A20
 have HP3 := sd_ H
 clear H
 go_enter Try.func14, Try.ntmps14
 go_upto_if 5 with (first | ((with_reducible refine gate_dst (N := 1) rfl ?_); refine bx_ (N := 1) (cs := #[.int .i64 a0]) (t := 3) ?_; intro gb127 hg w4 hbox hb; have BK127 := sd_ (hbox); have GW127 := sd_ (gs_ hg (bw0_ HB.out)); have GE127 := sd_ (gs_ hg (bw0_ HB.out)); replace HB := sd_ (below_step (bw0_ HB.out) hb); clear hb hbox hg) | ((with_reducible refine gate_dst (N := 2) rfl ?_); refine bx_ (N := 2) (cs := #[.int .i64 0, .slice none 0 0, .slice none 0 0, .slice none 0 0]) (t := 27) ?_; intro gb128 hg w5 hbox hb; have BK128 := sd_ (hbox); have GW128 := sd_ (gs_ hg (bw1_ HB.out GE127.out)); have GE128 := sd_ (gs_ hg (bw1_ HB.out GE127.out)); replace HB := sd_ (below_step (bw1_ HB.out GE127.out) hb); have NB127_128 := sd_ (nl_ hg (bl_ BK127.out)); have NB128_127 := sd_ (ng_ hg (bl_ BK127.out)); replace BK127 := sd_ (bb_ BK127.out hb); clear hb hbox hg; have hnb6 := NB127_128.out; have hnc6 := NB128_127.out; have hcz7_0 : w5.cell? ⟨gb127, 0, none⟩ = some (.int .i64 a0) := (blk_cell BK127.out 0).trans rfl; have hfz7_0 := blk_frozen BK127.out 0) | ((with_reducible refine gate_callee (f := 54) rfl ?_); refine goesL_ (some 4) rfl rfl Try.func54 (by kernel_rfl) rfl #[.int .i64 a0, .int .i64 1, .int .i64 14] rfl la_ ?_; (with_reducible refine (impl_within.calls a0 1 14 t129 _ A2.out).mono ?_); rintro e w' ⟨rfl, ⟨nd, rfl⟩⟩; refine ⟨_, rfl, ?_⟩))
 have H := HP3.out
 clear HP3
 by_cases c8 : t129 = true
 ·subst c8
  have H1 : ((impl_counted.f k a0 (fun z0_ z1_ => impl_CountSystem_1.f z0_ z1_ a0)).bind fun bt130 => (some (bt130.1, bt130.2.1, bt130.2.2.1, bt130.2.2.2))) = some (r1, r2, r3, r4) := by rw [if_pos rfl] at H; exact H
  clear H
  have H := H1
  clear H1
  replace H := Option.bind_eq_some_iff.mp H
  obtain ⟨⟨t130, t131, t134, t137⟩, A90, H⟩ := H
  try dsimp only at H
  have A9 := sd_ A90
  clear A90
  simp only [Option.some.injEq, Prod.mk.injEq] at H
  obtain ⟨rfl, rfl, rfl, rfl⟩ := H
  have hnb10 := NB127_128.out
  have hnc10 := NB128_127.out
  have hcz11_0 : w5.cell? ⟨gb127, 0, none⟩ = some (.int .i64 a0) := (blk_cell BK127.out 0).trans rfl
  have hfz11_0 := blk_frozen BK127.out 0
  go_wp2_with (first | ((with_reducible refine gate_callee (f := 55) rfl ?_); refine goesL_ (some 9) rfl rfl Try.func55 (by kernel_rfl) rfl #[.int .i64 a0, .func (.func 56) #[] #[.pointer (some ⟨gb127, 0, none⟩)]] rfl la_ ?_; (with_reducible refine (impl_counted.calls k a0 (fun z0_ z1_ => impl_CountSystem_1.f z0_ z1_ a0) 56 #[] #[.pointer (some ⟨gb127, 0, none⟩)] t130 t131 t134 t137 _ ?side1 ?side2 A9.out).mono ?_); (case side1 => exact ⟨_, Try.func56, (by kernel_rfl), rfl⟩); (case side2 => intro z0_0 z1_0 rr0_0 w9_0  hb9_0 h9_0; refine calls_of_args (args' := #[.int .i64 z0_0, .int .i64 z1_0, .pointer (some ⟨gb127, 0, none⟩)]) (by first | rfl | simp) ?_; refine (impl_CountSystem_1.calls z0_0 z1_0 gb127 a0 rr0_0 w9_0 (blk_below (bz_ BK127.out) hb9_0) h9_0).mono ?_; exact fun _ _ h_ => ⟨h_.1, h_.2.below⟩); rintro e w12 ⟨v132, v135, v138, rfl, ho0, ho1, ho2, hb⟩; refine ⟨_, rfl, ?_⟩; have HO133 := sd_ (Kd.R_lower (Kd.R_newB ho0 (g := gb127) (o := .cells #[.int .i64 a0] 3 (0, 0)) (bz_ BK127.out)) (below_size (bw2_ HB.out GE127.out GE128.out))); have HO136 := sd_ (Kd.R_lower (Kd.R_newB ho1 (g := gb127) (o := .cells #[.int .i64 a0] 3 (0, 0)) (bz_ BK127.out)) (below_size (bw2_ HB.out GE127.out GE128.out))); have HO139 := sd_ (Kd.R_lower ho2 (below_size (bw2_ HB.out GE127.out GE128.out))); replace BK127 := sd_ (bb_ BK127.out hb); replace BK128 := sd_ (bb_ BK128.out hb); replace HB := sd_ (below_step (bw2_ HB.out GE127.out GE128.out) hb); (try clear hb); (try clear ho0); (try clear ho1); (try clear ho2); obtain ⟨hcz13_0, hcz13_1, hcz13_2, hcz13_3, hfz13_0, hfz13_1, hfz13_2, hfz13_3⟩ := bf4_ BK128.out; obtain ⟨Ao14, co14, eo14⟩ := Kd.R_slice HO133.out; subst eo14; obtain ⟨Ao15, co15, eo15⟩ := Kd.R_slice HO136.out; subst eo15; obtain ⟨Ao16, co16, eo16⟩ := Kd.R_slice HO139.out; subst eo16))
  refine bodyPost_ret (results_cell_row rfl _ _ gb128 27 #[.int .i64 t130, .slice Ao14 t131.length co14, .slice Ao15 t134.length co15, .slice Ao16 t137.length co16] (0, 0) _ rfl (by (with_reducible repeat (first | refine blk_drewN ?_ _ | refine blk_drew ?_ | refine blk_alloc ?_ _)); refine blk_put (cs := #[.int .i64 t130, .slice Ao14 t131.length co14, .slice Ao15 t134.length co15, .slice none 0 0]) ?_ 3 _ rfl; (with_reducible repeat (first | refine blk_drewN ?_ _ | refine blk_drew ?_ | refine blk_alloc ?_ _)); refine blk_put (cs := #[.int .i64 t130, .slice Ao14 t131.length co14, .slice none 0 0, .slice none 0 0]) ?_ 2 _ rfl; (with_reducible repeat (first | refine blk_drewN ?_ _ | refine blk_drew ?_ | refine blk_alloc ?_ _)); refine blk_put (cs := #[.int .i64 t130, .slice none 0 0, .slice none 0 0, .slice none 0 0]) ?_ 1 _ rfl; (with_reducible repeat (first | refine blk_drewN ?_ _ | refine blk_drew ?_ | refine blk_alloc ?_ _)); refine blk_put (cs := #[.int .i64 0, .slice none 0 0, .slice none 0 0, .slice none 0 0]) ?_ 0 _ rfl; (with_reducible repeat (first | refine blk_drewN ?_ _ | refine blk_drew ?_ | refine blk_alloc ?_ _)); exact BK128.out) Try.underlying27 rfl (by kernel_rfl)) rfl ?_
  exact ⟨_, _, _, an_, by (with_reducible repeat (first | apply Kd.R_alloc | apply Kd.R_drewN | apply Kd.R_drew)); exact Kd.R_mono (Kd.R_far (p := ⟨gb128, 3, none⟩) (Kd.R_far (p := ⟨gb128, 2, none⟩) (Kd.R_far (p := ⟨gb128, 1, none⟩) (Kd.R_far (p := ⟨gb128, 0, none⟩) (Kd.R_types HO133.out BK128.out (by decide)) (fun _ hk => hk.2) (.int .i64 t130)) (fun _ hk => hk.2) (.slice Ao14 t131.length co14)) (fun _ hk => hk.2) (.slice Ao15 t134.length co15)) (fun _ hk => hk.2) (.slice Ao16 t137.length co16)) (fun _ hk => hk.1.1), by (with_reducible repeat (first | apply Kd.R_alloc | apply Kd.R_drewN | apply Kd.R_drew)); exact Kd.R_mono (Kd.R_far (p := ⟨gb128, 3, none⟩) (Kd.R_far (p := ⟨gb128, 2, none⟩) (Kd.R_far (p := ⟨gb128, 1, none⟩) (Kd.R_far (p := ⟨gb128, 0, none⟩) (Kd.R_types HO136.out BK128.out (by decide)) (fun _ hk => hk.2) (.int .i64 t130)) (fun _ hk => hk.2) (.slice Ao14 t131.length co14)) (fun _ hk => hk.2) (.slice Ao15 t134.length co15)) (fun _ hk => hk.2) (.slice Ao16 t137.length co16)) (fun _ hk => hk.1.1), by (with_reducible repeat (first | apply Kd.R_alloc | apply Kd.R_drewN | apply Kd.R_drew)); exact Kd.R_mono (Kd.R_far (p := ⟨gb128, 3, none⟩) (Kd.R_far (p := ⟨gb128, 2, none⟩) (Kd.R_far (p := ⟨gb128, 1, none⟩) (Kd.R_far (p := ⟨gb128, 0, none⟩) (Kd.R_types HO139.out BK128.out (by decide)) (fun _ hk => hk.2) (.int .i64 t130)) (fun _ hk => hk.2) (.slice Ao14 t131.length co14)) (fun _ hk => hk.2) (.slice Ao15 t134.length co15)) (fun _ hk => hk.2) (.slice Ao16 t137.length co16)) (fun _ hk => trivial), bw2_ HB.out GE127.out GE128.out⟩
 ·replace c8 := Bool.eq_false_iff.mpr c8
  subst c8
  have H1 : (some (0, ([] : List Int), ([] : List Int), ([] : List Bool))) = some (r1, r2, r3, r4) := by rw [if_neg (show ¬ (false = true) by decide)] at H; exact H
  clear H
  have H := H1
  clear H1
  simp only [Option.some.injEq, Prod.mk.injEq] at H
  obtain ⟨rfl, rfl, rfl, rfl⟩ := H
  have hnb17 := NB128_127.out
  have hnc17 := NB127_128.out
  obtain ⟨hcz18_0, hcz18_1, hcz18_2, hcz18_3, hfz18_0, hfz18_1, hfz18_2, hfz18_3⟩ := bf4_ BK128.out
  go_wp2
  refine bodyPost_ret (results_cell_row rfl _ _ gb128 27 #[.int .i64 0, .slice none 0 0, .slice none 0 0, .slice none 0 0] (0, 0) _ rfl (by (with_reducible repeat (first | refine blk_drewN ?_ _ | refine blk_drew ?_ | refine blk_alloc ?_ _)); refine blk_put (cs := #[.int .i64 0, .slice none 0 0, .slice none 0 0, .slice none 0 0]) ?_ 3 _ rfl; (with_reducible repeat (first | refine blk_drewN ?_ _ | refine blk_drew ?_ | refine blk_alloc ?_ _)); refine blk_put (cs := #[.int .i64 0, .slice none 0 0, .slice none 0 0, .slice none 0 0]) ?_ 2 _ rfl; (with_reducible repeat (first | refine blk_drewN ?_ _ | refine blk_drew ?_ | refine blk_alloc ?_ _)); refine blk_put (cs := #[.int .i64 0, .slice none 0 0, .slice none 0 0, .slice none 0 0]) ?_ 1 _ rfl; (with_reducible repeat (first | refine blk_drewN ?_ _ | refine blk_drew ?_ | refine blk_alloc ?_ _)); refine blk_put (cs := #[.int .i64 0, .slice none 0 0, .slice none 0 0, .slice none 0 0]) ?_ 0 _ rfl; (with_reducible repeat (first | refine blk_drewN ?_ _ | refine blk_drew ?_ | refine blk_alloc ?_ _)); exact BK128.out) Try.underlying27 rfl (by kernel_rfl)) rfl ?_
  exact ⟨_, _, _, an_, by first | exact Kd.R_nil _ _ _ _ _ | exact Kd.N_nil _ _ _ _ _ | exact Kd.V_nil _ _ _ _ _ | exact Kd.Q_nil _ _ _ _ _ | exact Kd.S_nil _ _ _ _ _, by first | exact Kd.R_nil _ _ _ _ _ | exact Kd.N_nil _ _ _ _ _ | exact Kd.V_nil _ _ _ _ _ | exact Kd.Q_nil _ _ _ _ _ | exact Kd.S_nil _ _ _ _ _, by first | exact Kd.R_nil _ _ _ _ _ | exact Kd.N_nil _ _ _ _ _ | exact Kd.V_nil _ _ _ _ _ | exact Kd.Q_nil _ _ _ _ _ | exact Kd.S_nil _ _ _ _ _, bw2_ HB.out GE127.out GE128.out⟩


/-! ### spec_l1Tables: function 101 -/
mutual
def spec_l1Tables.j0 : Nat → Bool → Int → List Int → List Int → List Bool → Option (Bool)
 | 0, _, _, _, _, _ => none
 | k + 1, x40, x402000, x402001, x402002, x402003 => if x40 = true then (some false) else (spec_l1Tables.l0 k 0 x402000 x402001 x402002 x402003)
def spec_l1Tables.l0 : Nat → Int → Int → List Int → List Int → List Bool → Option (Bool)
 | 0, _, _, _, _, _ => none
 | k + 1, x3, x402000, x402001, x402002, x402003 => if x3 < (x402001.length : Int) then (if 0 ≤ x3 then ((spec_l1In.f (rd x402001 x3) 0 (wrap64 (x402000 - 1))).bind fun t404 => (if t404 = true then (if x3 < (x402002.length : Int) then ((spec_l1In.f (rd x402002 x3) 0 (wrap64 (x402000 - 1))).bind fun t406 => (if t406 = true then (spec_l1Tables.l0 k (wrap64 (x3 + 1)) x402000 x402001 x402002 x402003) else (some false))) else (none)) else (some false))) else (none)) else (some true)
end
def spec_l1Tables.f (k : Nat) (a0_0 : Int) (l0_1 : List Int) (l0_2 : List Int) (l0_3 : List Bool) : Option (Bool) := (spec_l1In.f a0_0 2 16).bind fun t402 => (if t402 = true then (if (l0_1.length : Int) = (wrap64 (a0_0 * a0_0)) then (if (l0_2.length : Int) = (wrap64 (a0_0 * a0_0)) then (spec_l1Tables.j0 k ((l0_3.length : Int) != (wrap64 (a0_0 * a0_0))) a0_0 l0_1 l0_2 l0_3) else (spec_l1Tables.j0 k true a0_0 l0_1 l0_2 l0_3)) else (spec_l1Tables.j0 k true a0_0 l0_1 l0_2 l0_3)) else (spec_l1Tables.j0 k true a0_0 l0_1 l0_2 l0_3))
set_option maxHeartbeats 8000000 in
set_option maxRecDepth 100000 in
theorem spec_l1Tables.calls (k : Nat) (a0_0 : Int) (A0_1 : Option Addr) (c0_1 : Nat) (l0_1 : List Int) (A0_2 : Option Addr) (c0_2 : Nat) (l0_2 : List Int) (A0_3 : Option Addr) (c0_3 : Nat) (l0_3 : List Bool) (r : Bool) (w : World) (hr0_1 : Kd.C (Kd.int .i64) w A0_1 l0_1.length l0_1) (hc0_1 : l0_1.length ≤ c0_1) (hr0_2 : Kd.C (Kd.int .i64) w A0_2 l0_2.length l0_2) (hc0_2 : l0_2.length ≤ c0_2) (hr0_3 : Kd.C Kd.bool w A0_3 l0_3.length l0_3) (hc0_3 : l0_3.length ≤ c0_3) (h : spec_l1Tables.f k a0_0 l0_1 l0_2 l0_3 = some r) :
  Calls Try.prog 101 #[.agg #[.int .i64 a0_0, .slice A0_1 l0_1.length c0_1, .slice A0_2 l0_2.length c0_2, .slice A0_3 l0_3.length c0_3]] w fun e w' => e = .returned (.bool r) ∧ Below w.heap.size w w' := by
 have hu27 := Try.underlying27
 have HR0_1 := sd_ hr0_1
 have HC0_1 := sd_ hc0_1
 clear hr0_1 hc0_1
 have HR0_2 := sd_ hr0_2
 have HC0_2 := sd_ hc0_2
 clear hr0_2 hc0_2
 have HR0_3 := sd_ hr0_3
 have HC0_3 := sd_ hc0_3
 clear hr0_3 hc0_3
 have HB := sd_ (Below.refl w.heap.size w)
 have H : ((spec_l1In.f a0_0 2 16).bind fun t402 => (if t402 = true then (if (l0_1.length : Int) = (wrap64 (a0_0 * a0_0)) then (if (l0_2.length : Int) = (wrap64 (a0_0 * a0_0)) then (spec_l1Tables.j0 k ((l0_3.length : Int) != (wrap64 (a0_0 * a0_0))) a0_0 l0_1 l0_2 l0_3) else (spec_l1Tables.j0 k true a0_0 l0_1 l0_2 l0_3)) else (spec_l1Tables.j0 k true a0_0 l0_1 l0_2 l0_3)) else (spec_l1Tables.j0 k true a0_0 l0_1 l0_2 l0_3))) = some r := h
 clear h
 have HC2 := sd_ H
 clear H
 go_enter Try.func101, Try.ntmps101
 go_upto_region 1 with (first | ((with_reducible refine gate_dst (N := 1) rfl ?_); (try (refine gate_guard (by rfl) ?_; dsimp only)); refine bx_ (N := 1) (cs := #[.int .i64 a0_0, .slice A0_1 l0_1.length c0_1, .slice A0_2 l0_2.length c0_2, .slice A0_3 l0_3.length c0_3]) (t := 27) ?_; intro gb401 hg w3 hbox hb; have BK401 := sd_ (hbox); have GW401 := sd_ (gs_ hg (bw0_ HB.out)); have GE401 := sd_ (gs_ hg (bw0_ HB.out)); replace HB := sd_ (below_step (bw0_ HB.out) hb); clear hb hbox hg))
 (try simp only [Act.put, List.setIfInBounds_toArray, List.set_cons_zero, List.set_cons_succ])
 go_cut [40] (fun v40 wc => ∃ (kq : Nat) (x40_1 : Bool), v40 = .bool x40_1 ∧ Aside0 (spec_l1Tables.j0 kq x40_1 a0_0 l0_1 l0_2 l0_3 = some r) ∧ Aside0 (kq ≤ k) ∧ Aside0 (wc.heap[gb401]? = some (.cells #[.int .i64 a0_0, (.slice A0_1 l0_1.length c0_1), (.slice A0_2 l0_2.length c0_2), (.slice A0_3 l0_3.length c0_3)] 27 (0, 0))) ∧ Aside0 (Below w.heap.size w wc))
 case first =>
  have H := HC2.out
  clear HC2
  replace H := Option.bind_eq_some_iff.mp H
  obtain ⟨t402, A40, H⟩ := H
  try dsimp only at H
  have A4 := sd_ A40
  clear A40
  by_cases c5 : t402 = true
  ·subst c5
   have H1 : (if (l0_1.length : Int) = (wrap64 (a0_0 * a0_0)) then (if (l0_2.length : Int) = (wrap64 (a0_0 * a0_0)) then (spec_l1Tables.j0 k ((l0_3.length : Int) != (wrap64 (a0_0 * a0_0))) a0_0 l0_1 l0_2 l0_3) else (spec_l1Tables.j0 k true a0_0 l0_1 l0_2 l0_3)) else (spec_l1Tables.j0 k true a0_0 l0_1 l0_2 l0_3)) = some r := by rw [if_pos rfl] at H; exact H
   clear H
   have H := H1
   clear H1
   by_cases c6 : (l0_1.length : Int) = (wrap64 (a0_0 * a0_0))
   ·rw [if_pos c6] at H
    have c6b0 : ((l0_1.length : Int) == (wrap64 (a0_0 * a0_0))) = true := beq_iff_eq.mpr c6
    have c6b1 : ((l0_1.length : Int) != (wrap64 (a0_0 * a0_0))) = false := bne_eq_false_iff_eq.mpr c6
    clear c6
    (first | rw [c6b0] | (simp only [i64_w, i32_w]; rw [c6b0]) | skip)
    by_cases c7 : (l0_2.length : Int) = (wrap64 (a0_0 * a0_0))
    ·rw [if_pos c7] at H
     have c7b0 : ((l0_2.length : Int) == (wrap64 (a0_0 * a0_0))) = true := beq_iff_eq.mpr c7
     have c7b1 : ((l0_2.length : Int) != (wrap64 (a0_0 * a0_0))) = false := bne_eq_false_iff_eq.mpr c7
     clear c7
     have H' := sd_ H
     clear H
     obtain ⟨hcz8_0, hcz8_1, hcz8_2, hcz8_3, hfz8_0, hfz8_1, hfz8_2, hfz8_3⟩ := bf4_ BK401.out
     go_wp2_with (first | ((with_reducible refine gate_callee (f := 80) rfl ?_); refine goesL_ (some 6) rfl rfl Try.func80 (by kernel_rfl) rfl #[.int .i64 a0_0, .int .i64 2, .int .i64 16] rfl la_ ?_; (with_reducible refine (spec_l1In.calls a0_0 2 16 true _ A4.out).mono ?_); rintro e w' ⟨rfl, ⟨nd, rfl⟩⟩; refine ⟨_, rfl, ?_⟩))
     go_meet
     case rel => exact ⟨_, (((l0_3.length : Int) != (wrap64 (a0_0 * a0_0)))), sm_, H', ⟨by first | omega | exact Nat.le_refl _⟩, ⟨by (with_reducible repeat (first | refine blk_drewN ?_ _ | refine blk_drew ?_ | refine blk_alloc ?_ _)); exact BK401.out⟩, ⟨bw1_ HB.out GE401.out⟩⟩
    ·rw [if_neg c7] at H
     have c7b0 : ((l0_2.length : Int) == (wrap64 (a0_0 * a0_0))) = false := beq_eq_false_iff_ne.mpr c7
     have c7b1 : ((l0_2.length : Int) != (wrap64 (a0_0 * a0_0))) = true := bne_iff_ne.mpr c7
     have H' := sd_ H
     clear H
     obtain ⟨hcz9_0, hcz9_1, hcz9_2, hcz9_3, hfz9_0, hfz9_1, hfz9_2, hfz9_3⟩ := bf4_ BK401.out
     go_wp2_with (first | ((with_reducible refine gate_callee (f := 80) rfl ?_); refine goesL_ (some 6) rfl rfl Try.func80 (by kernel_rfl) rfl #[.int .i64 a0_0, .int .i64 2, .int .i64 16] rfl la_ ?_; (with_reducible refine (spec_l1In.calls a0_0 2 16 true _ A4.out).mono ?_); rintro e w' ⟨rfl, ⟨nd, rfl⟩⟩; refine ⟨_, rfl, ?_⟩))
     go_meet
     case rel => exact ⟨_, (true), sm_, H', ⟨by first | omega | exact Nat.le_refl _⟩, ⟨by (with_reducible repeat (first | refine blk_drewN ?_ _ | refine blk_drew ?_ | refine blk_alloc ?_ _)); exact BK401.out⟩, ⟨bw1_ HB.out GE401.out⟩⟩
   ·rw [if_neg c6] at H
    have c6b0 : ((l0_1.length : Int) == (wrap64 (a0_0 * a0_0))) = false := beq_eq_false_iff_ne.mpr c6
    have c6b1 : ((l0_1.length : Int) != (wrap64 (a0_0 * a0_0))) = true := bne_iff_ne.mpr c6
    (first | rw [c6b0] | (simp only [i64_w, i32_w]; rw [c6b0]) | skip)
    have H' := sd_ H
    clear H
    obtain ⟨hcz10_0, hcz10_1, hcz10_2, hcz10_3, hfz10_0, hfz10_1, hfz10_2, hfz10_3⟩ := bf4_ BK401.out
    go_wp2_with (first | ((with_reducible refine gate_callee (f := 80) rfl ?_); refine goesL_ (some 6) rfl rfl Try.func80 (by kernel_rfl) rfl #[.int .i64 a0_0, .int .i64 2, .int .i64 16] rfl la_ ?_; (with_reducible refine (spec_l1In.calls a0_0 2 16 true _ A4.out).mono ?_); rintro e w' ⟨rfl, ⟨nd, rfl⟩⟩; refine ⟨_, rfl, ?_⟩))
    go_meet
    case rel => exact ⟨_, (true), sm_, H', ⟨by first | omega | exact Nat.le_refl _⟩, ⟨by (with_reducible repeat (first | refine blk_drewN ?_ _ | refine blk_drew ?_ | refine blk_alloc ?_ _)); exact BK401.out⟩, ⟨bw1_ HB.out GE401.out⟩⟩
  ·replace c5 := Bool.eq_false_iff.mpr c5
   subst c5
   have H1 : (spec_l1Tables.j0 k true a0_0 l0_1 l0_2 l0_3) = some r := by rw [if_neg (show ¬ (false = true) by decide)] at H; exact H
   clear H
   have H := H1
   clear H1
   have H' := sd_ H
   clear H
   obtain ⟨hcz11_0, hcz11_1, hcz11_2, hcz11_3, hfz11_0, hfz11_1, hfz11_2, hfz11_3⟩ := bf4_ BK401.out
   go_wp2_with (first | ((with_reducible refine gate_callee (f := 80) rfl ?_); refine goesL_ (some 6) rfl rfl Try.func80 (by kernel_rfl) rfl #[.int .i64 a0_0, .int .i64 2, .int .i64 16] rfl la_ ?_; (with_reducible refine (spec_l1In.calls a0_0 2 16 false _ A4.out).mono ?_); rintro e w' ⟨rfl, ⟨nd, rfl⟩⟩; refine ⟨_, rfl, ?_⟩))
   go_meet
   case rel => exact ⟨_, (true), sm_, H', ⟨by first | omega | exact Nat.le_refl _⟩, ⟨by (with_reducible repeat (first | refine blk_drewN ?_ _ | refine blk_drew ?_ | refine blk_alloc ?_ _)); exact BK401.out⟩, ⟨bw1_ HB.out GE401.out⟩⟩
 case rest =>
  clear HC2
  try clear c1
  try clear p6
  try clear c10
  obtain ⟨kq, x40_1, rfl, HA, HJ1, BK401, HB⟩ := hcut
  cases kq with
  | zero => exact absurd HA.out (by simp [spec_l1Tables.j0])
  | succ kj1 =>
   have H := HA.out
   clear HA
   simp only [spec_l1Tables.j0] at H
   by_cases c12 : x40_1 = true
   ·subst c12
    have H1 : (some false) = some r := by rw [if_pos rfl] at H; exact H
    clear H
    have H := H1
    clear H1
    obtain rfl := Option.some.inj H
    go_wp2
    go_ret
    exact ⟨an_, bw1_ HB.out GE401.out⟩
   ·replace c12 := Bool.eq_false_iff.mpr c12
    subst c12
    have H1 : (spec_l1Tables.l0 kj1 0 a0_0 l0_1 l0_2 l0_3) = some r := by rw [if_neg (show ¬ (false = true) by decide)] at H; exact H
    clear H
    have H := H1
    clear H1
    have H' := sd_ H
    clear H
    go_wp2
    go_loopg [3] kj1 (fun kq v3 w' => ∃ (x3_2 : Int), v3 = .int .i64 x3_2 ∧ Aside0 (spec_l1Tables.l0 kq x3_2 a0_0 l0_1 l0_2 l0_3 = some r) ∧ Aside0 (kq ≤ kj1) ∧ Aside0 (w'.heap[gb401]? = some (.cells #[.int .i64 a0_0, (.slice A0_1 l0_1.length c0_1), (.slice A0_2 l0_2.length c0_2), (.slice A0_3 l0_3.length c0_3)] 27 (0, 0))) ∧ Aside0 (Below w.heap.size w w'))
    case atStart => exact ⟨(0), sm_, H', ⟨Nat.le_refl _⟩, ⟨by (with_reducible repeat (first | refine blk_drewN ?_ _ | refine blk_drew ?_ | refine blk_alloc ?_ _)); exact BK401.out⟩, ⟨bw1_ HB.out GE401.out⟩⟩
    case round =>
     clear H'
     try clear c1
     try clear p2
     try clear p6
     try clear c10
     try clear c12
     try clear p6
     obtain ⟨x3_2, rfl, HA, HK2, BK401, HB⟩ := hrel
     cases gk with
     | zero => exact absurd HA.out (by simp [spec_l1Tables.l0])
     | succ k2 =>
      have H := HA.out
      clear HA
      simp only [spec_l1Tables.l0] at H
      by_cases c13 : x3_2 < (l0_1.length : Int)
      ·rw [if_pos c13] at H
       have c13b0 : decide (x3_2 < (l0_1.length : Int)) = true := decide_eq_true c13
       clear c13
       by_cases c14 : 0 ≤ x3_2
       ·rw [if_pos c14] at H
        have c14b0 : decide (0 ≤ x3_2) = true := decide_eq_true c14
        clear c14
        replace H := Option.bind_eq_some_iff.mp H
        obtain ⟨t404, A150, H⟩ := H
        try dsimp only at H
        have A15 := sd_ A150
        clear A150
        by_cases c16 : t404 = true
        ·subst c16
         have H1 : (if x3_2 < (l0_2.length : Int) then ((spec_l1In.f (rd l0_2 x3_2) 0 (wrap64 (a0_0 - 1))).bind fun t406 => (if t406 = true then (spec_l1Tables.l0 k2 (wrap64 (x3_2 + 1)) a0_0 l0_1 l0_2 l0_3) else (some false))) else (none)) = some r := by rw [if_pos rfl] at H; exact H
         clear H
         have H := H1
         clear H1
         by_cases c17 : x3_2 < (l0_2.length : Int)
         ·rw [if_pos c17] at H
          have c17b0 : decide (x3_2 < (l0_2.length : Int)) = true := decide_eq_true c17
          clear c17
          replace H := Option.bind_eq_some_iff.mp H
          obtain ⟨t406, A180, H⟩ := H
          try dsimp only at H
          have A18 := sd_ A180
          clear A180
          by_cases c19 : t406 = true
          ·subst c19
           have H1 : (spec_l1Tables.l0 k2 (wrap64 (x3_2 + 1)) a0_0 l0_1 l0_2 l0_3) = some r := by rw [if_pos rfl] at H; exact H
           clear H
           have H := H1
           clear H1
           have H' := sd_ H
           clear H
           obtain ⟨hcz20_0, hcz20_1, hcz20_2, hcz20_3, hfz20_0, hfz20_1, hfz20_2, hfz20_3⟩ := bf4_ BK401.out
           try go_wp2
           have p403 : 0 ≤ (x3_2 : Int) := dt_
           have q403 : x3_2 < (l0_1.length : Int) := dt_
           obtain ⟨ad403, e403, hx403_0⟩ := Kd.at_int HR0_1.out x3_2 p403 q403
           cases e403
           replace hx403_0 := (HB.out.cell (World.block_lt_of_cell? w _ hx403_0)).trans hx403_0
           replace p403 := eq_true p403
           replace q403 := eq_true q403
           have p405 : 0 ≤ (x3_2 : Int) := dt_
           have q405 : x3_2 < (l0_2.length : Int) := dt_
           obtain ⟨ad405, e405, hx405_0⟩ := Kd.at_int HR0_2.out x3_2 p405 q405
           cases e405
           replace hx405_0 := (HB.out.cell (World.block_lt_of_cell? w _ hx405_0)).trans hx405_0
           replace p405 := eq_true p405
           replace q405 := eq_true q405
           refine qb_region (by kernel_rfl) (by kernel_rfl) ?_
           repeat ((first | (apply qb_skip; (focus rfl)) | (refine qb_callN 56 rfl ?_; apply qb_call 56 rfl Try.func80 (by kernel_rfl) rfl rfl; (focus rfl); (focus (exact fun wq9 hb9 => qb_d hb9 (spec_l1In.calls (rd l0_1 x3_2) 0 (wrap64 (a0_0 - 1)) true _ A15.out))); (focus (rfl))) | (refine qb_callN 67 rfl ?_; apply qb_call 67 rfl Try.func80 (by kernel_rfl) rfl rfl; (focus rfl); (focus (exact fun wq9 hb9 => qb_d hb9 (spec_l1In.calls (rd l0_2 x3_2) 0 (wrap64 (a0_0 - 1)) true _ A18.out))); (focus (rfl))) | (apply qb_val; (focus rfl); (focus (intro wq9 _; go_simp; with_reducible rfl))) | (apply qb_val; (focus rfl); (focus (intro wq9 hb9_; have hb9 : Below wr.heap.size wr wq9 := hb9_; have BK401 := sd_ (blk_below BK401.out hb9); have hc9_401_0 : wq9.cell? ⟨gb401, 0, none⟩ = some (.int .i64 a0_0) := (blk_cell BK401.out 0).trans rfl; have hc9_401_1 : wq9.cell? ⟨gb401, 1, none⟩ = some (.slice (some ad403) l0_1.length c0_1) := (blk_cell BK401.out 1).trans rfl; have hc9_401_2 : wq9.cell? ⟨gb401, 2, none⟩ = some (.slice (some ad405) l0_2.length c0_2) := (blk_cell BK401.out 2).trans rfl; have hc9_401_3 : wq9.cell? ⟨gb401, 3, none⟩ = some (.slice A0_3 l0_3.length c0_3) := (blk_cell BK401.out 3).trans rfl; have hx403_0 := (hb9.cell (World.block_lt_of_cell? _ _ hx403_0)).trans hx403_0; have hx405_0 := (hb9.cell (World.block_lt_of_cell? _ _ hx405_0)).trans hx405_0; go_simp; with_reducible rfl)))); (focus (simp only [Act.put, List.setIfInBounds_toArray, List.set_cons_zero, List.set_cons_succ, i64_w, i32_w]; rfl)))
           refine qb_nil ?_
           intro w21 hb
           replace BK401 := sd_ (blk_below BK401.out hb)
           replace HB := sd_ (below_step HB.out hb)
           clear hb
           (try clear HQ)
           try go_wp2
           go_roundg k2
           case measure => have := HJ1.out; have := HK2.out; omega
           case rel => exact ⟨(wrap64 (x3_2 + 1)), sm_, H', ⟨by have := HJ1.out; have := HK2.out; omega⟩, ⟨by (with_reducible repeat (first | refine blk_drewN ?_ _ | refine blk_drew ?_ | refine blk_alloc ?_ _)); exact BK401.out⟩, ⟨bw1_ HB.out GE401.out⟩⟩
          ·replace c19 := Bool.eq_false_iff.mpr c19
           subst c19
           have H1 : (some false) = some r := by rw [if_neg (show ¬ (false = true) by decide)] at H; exact H
           clear H
           have H := H1
           clear H1
           obtain rfl := Option.some.inj H
           obtain ⟨hcz22_0, hcz22_1, hcz22_2, hcz22_3, hfz22_0, hfz22_1, hfz22_2, hfz22_3⟩ := bf4_ BK401.out
           try go_wp2
           have p403 : 0 ≤ (x3_2 : Int) := dt_
           have q403 : x3_2 < (l0_1.length : Int) := dt_
           obtain ⟨ad403, e403, hx403_0⟩ := Kd.at_int HR0_1.out x3_2 p403 q403
           cases e403
           replace hx403_0 := (HB.out.cell (World.block_lt_of_cell? w _ hx403_0)).trans hx403_0
           replace p403 := eq_true p403
           replace q403 := eq_true q403
           have p405 : 0 ≤ (x3_2 : Int) := dt_
           have q405 : x3_2 < (l0_2.length : Int) := dt_
           obtain ⟨ad405, e405, hx405_0⟩ := Kd.at_int HR0_2.out x3_2 p405 q405
           cases e405
           replace hx405_0 := (HB.out.cell (World.block_lt_of_cell? w _ hx405_0)).trans hx405_0
           replace p405 := eq_true p405
           replace q405 := eq_true q405
           refine qb_region (by kernel_rfl) (by kernel_rfl) ?_
           repeat ((first | (apply qb_skip; (focus rfl)) | (refine qb_callN 56 rfl ?_; apply qb_call 56 rfl Try.func80 (by kernel_rfl) rfl rfl; (focus rfl); (focus (exact fun wq9 hb9 => qb_d hb9 (spec_l1In.calls (rd l0_1 x3_2) 0 (wrap64 (a0_0 - 1)) true _ A15.out))); (focus (rfl))) | (refine qb_callN 67 rfl ?_; apply qb_call 67 rfl Try.func80 (by kernel_rfl) rfl rfl; (focus rfl); (focus (exact fun wq9 hb9 => qb_d hb9 (spec_l1In.calls (rd l0_2 x3_2) 0 (wrap64 (a0_0 - 1)) false _ A18.out))); (focus (rfl))) | (apply qb_val; (focus rfl); (focus (intro wq9 _; go_simp; with_reducible rfl))) | (apply qb_val; (focus rfl); (focus (intro wq9 hb9_; have hb9 : Below wr.heap.size wr wq9 := hb9_; have BK401 := sd_ (blk_below BK401.out hb9); have hc9_401_0 : wq9.cell? ⟨gb401, 0, none⟩ = some (.int .i64 a0_0) := (blk_cell BK401.out 0).trans rfl; have hc9_401_1 : wq9.cell? ⟨gb401, 1, none⟩ = some (.slice (some ad403) l0_1.length c0_1) := (blk_cell BK401.out 1).trans rfl; have hc9_401_2 : wq9.cell? ⟨gb401, 2, none⟩ = some (.slice (some ad405) l0_2.length c0_2) := (blk_cell BK401.out 2).trans rfl; have hc9_401_3 : wq9.cell? ⟨gb401, 3, none⟩ = some (.slice A0_3 l0_3.length c0_3) := (blk_cell BK401.out 3).trans rfl; have hx403_0 := (hb9.cell (World.block_lt_of_cell? _ _ hx403_0)).trans hx403_0; have hx405_0 := (hb9.cell (World.block_lt_of_cell? _ _ hx405_0)).trans hx405_0; go_simp; with_reducible rfl)))); (focus (simp only [Act.put, List.setIfInBounds_toArray, List.set_cons_zero, List.set_cons_succ, i64_w, i32_w]; rfl)))
           refine qb_nil ?_
           intro w23 hb
           replace BK401 := sd_ (blk_below BK401.out hb)
           replace HB := sd_ (below_step HB.out hb)
           clear hb
           (try clear HQ)
           try go_wp2
           go_ret
           exact ⟨an_, bw1_ HB.out GE401.out⟩
         ·rw [if_neg c17] at H
          exact absurd H (by simp)
        ·replace c16 := Bool.eq_false_iff.mpr c16
         subst c16
         have H1 : (some false) = some r := by rw [if_neg (show ¬ (false = true) by decide)] at H; exact H
         clear H
         have H := H1
         clear H1
         obtain rfl := Option.some.inj H
         obtain ⟨hcz24_0, hcz24_1, hcz24_2, hcz24_3, hfz24_0, hfz24_1, hfz24_2, hfz24_3⟩ := bf4_ BK401.out
         try go_wp2
         have p403 : 0 ≤ (x3_2 : Int) := dt_
         have q403 : x3_2 < (l0_1.length : Int) := dt_
         obtain ⟨ad403, e403, hx403_0⟩ := Kd.at_int HR0_1.out x3_2 p403 q403
         cases e403
         replace hx403_0 := (HB.out.cell (World.block_lt_of_cell? w _ hx403_0)).trans hx403_0
         replace p403 := eq_true p403
         replace q403 := eq_true q403
         refine qb_region (by kernel_rfl) (by kernel_rfl) ?_
         repeat ((first | (apply qb_skip; (focus rfl)) | (refine qb_callN 56 rfl ?_; apply qb_call 56 rfl Try.func80 (by kernel_rfl) rfl rfl; (focus rfl); (focus (exact fun wq9 hb9 => qb_d hb9 (spec_l1In.calls (rd l0_1 x3_2) 0 (wrap64 (a0_0 - 1)) false _ A15.out))); (focus (rfl))) | (apply qb_val; (focus rfl); (focus (intro wq9 _; go_simp; with_reducible rfl))) | (apply qb_val; (focus rfl); (focus (intro wq9 hb9_; have hb9 : Below wr.heap.size wr wq9 := hb9_; have BK401 := sd_ (blk_below BK401.out hb9); have hc9_401_0 : wq9.cell? ⟨gb401, 0, none⟩ = some (.int .i64 a0_0) := (blk_cell BK401.out 0).trans rfl; have hc9_401_1 : wq9.cell? ⟨gb401, 1, none⟩ = some (.slice (some ad403) l0_1.length c0_1) := (blk_cell BK401.out 1).trans rfl; have hc9_401_2 : wq9.cell? ⟨gb401, 2, none⟩ = some (.slice A0_2 l0_2.length c0_2) := (blk_cell BK401.out 2).trans rfl; have hc9_401_3 : wq9.cell? ⟨gb401, 3, none⟩ = some (.slice A0_3 l0_3.length c0_3) := (blk_cell BK401.out 3).trans rfl; have hx403_0 := (hb9.cell (World.block_lt_of_cell? _ _ hx403_0)).trans hx403_0; go_simp; with_reducible rfl)))); (focus (simp only [Act.put, List.setIfInBounds_toArray, List.set_cons_zero, List.set_cons_succ, i64_w, i32_w]; rfl)))
         refine qb_nil ?_
         intro w25 hb
         replace BK401 := sd_ (blk_below BK401.out hb)
         replace HB := sd_ (below_step HB.out hb)
         clear hb
         (try clear HQ)
         try go_wp2
         go_ret
         exact ⟨an_, bw1_ HB.out GE401.out⟩
       ·rw [if_neg c14] at H
        exact absurd H (by simp)
      ·rw [if_neg c13] at H
       have c13b0 : decide (x3_2 < (l0_1.length : Int)) = false := decide_eq_false c13
       clear c13
       obtain rfl := Option.some.inj H
       obtain ⟨hcz26_0, hcz26_1, hcz26_2, hcz26_3, hfz26_0, hfz26_1, hfz26_2, hfz26_3⟩ := bf4_ BK401.out
       go_wp2
       go_ret
       exact ⟨an_, bw1_ HB.out GE401.out⟩


/-! ### spec_l1One: function 102 -/
def spec_l1One.f (a0_0 : Int) (l0_1 : List Int) (l0_2 : List Int) (l0_3 : List Bool) (a1 : Int) : Option (Bool) := (spec_l1Add.f a0_0 l0_1 l0_2 l0_3 0 a1).bind fun t414 => (if t414 = a1 then ((spec_l1Mul.f a0_0 l0_1 l0_2 l0_3 1 a1).bind fun t415 => (if t415 = a1 then ((spec_l1Mul.f a0_0 l0_1 l0_2 l0_3 a1 1).bind fun t416 => (if t416 = a1 then ((spec_l1Mul.f a0_0 l0_1 l0_2 l0_3 0 a1).bind fun t417 => (if t417 = 0 then ((spec_l1Mul.f a0_0 l0_1 l0_2 l0_3 a1 0).bind fun t418 => (if t418 = 0 then ((spec_l1Le.f a0_0 l0_1 l0_2 l0_3 a1 a1).bind fun t419 => (some t419)) else (some false))) else (some false))) else (some false))) else (some false))) else (some false))
set_option maxHeartbeats 8000000 in
set_option maxRecDepth 100000 in
theorem spec_l1One.calls (a0_0 : Int) (A0_1 : Option Addr) (c0_1 : Nat) (l0_1 : List Int) (A0_2 : Option Addr) (c0_2 : Nat) (l0_2 : List Int) (A0_3 : Option Addr) (c0_3 : Nat) (l0_3 : List Bool) (a1 : Int) (r : Bool) (w : World) (hr0_1 : Kd.C (Kd.int .i64) w A0_1 l0_1.length l0_1) (hc0_1 : l0_1.length ≤ c0_1) (hr0_2 : Kd.C (Kd.int .i64) w A0_2 l0_2.length l0_2) (hc0_2 : l0_2.length ≤ c0_2) (hr0_3 : Kd.C Kd.bool w A0_3 l0_3.length l0_3) (hc0_3 : l0_3.length ≤ c0_3) (h : spec_l1One.f a0_0 l0_1 l0_2 l0_3 a1 = some r) :
  Calls Try.prog 102 #[.agg #[.int .i64 a0_0, .slice A0_1 l0_1.length c0_1, .slice A0_2 l0_2.length c0_2, .slice A0_3 l0_3.length c0_3], .int .i64 a1] w fun e w' => e = .returned (.bool r) ∧ Below w.heap.size w w' := by
 have hu27 := Try.underlying27
 have HR0_1 := sd_ hr0_1
 have HC0_1 := sd_ hc0_1
 clear hr0_1 hc0_1
 have HR0_2 := sd_ hr0_2
 have HC0_2 := sd_ hc0_2
 clear hr0_2 hc0_2
 have HR0_3 := sd_ hr0_3
 have HC0_3 := sd_ hc0_3
 clear hr0_3 hc0_3
 have HB := sd_ (Below.refl w.heap.size w)
 have H : ((spec_l1Add.f a0_0 l0_1 l0_2 l0_3 0 a1).bind fun t414 => (if t414 = a1 then ((spec_l1Mul.f a0_0 l0_1 l0_2 l0_3 1 a1).bind fun t415 => (if t415 = a1 then ((spec_l1Mul.f a0_0 l0_1 l0_2 l0_3 a1 1).bind fun t416 => (if t416 = a1 then ((spec_l1Mul.f a0_0 l0_1 l0_2 l0_3 0 a1).bind fun t417 => (if t417 = 0 then ((spec_l1Mul.f a0_0 l0_1 l0_2 l0_3 a1 0).bind fun t418 => (if t418 = 0 then ((spec_l1Le.f a0_0 l0_1 l0_2 l0_3 a1 a1).bind fun t419 => (some t419)) else (some false))) else (some false))) else (some false))) else (some false))) else (some false))) = some r := h
 clear h
 replace H := Option.bind_eq_some_iff.mp H
 obtain ⟨t414, A30, H⟩ := H
 try dsimp only at H
 have A3 := sd_ A30
 clear A30
 by_cases c4 : t414 = a1
 ·rw [if_pos c4] at H
  have c4b0 : (t414 == a1) = true := beq_iff_eq.mpr c4
  have c4b1 : (t414 != a1) = false := bne_eq_false_iff_eq.mpr c4
  clear c4
  replace H := Option.bind_eq_some_iff.mp H
  obtain ⟨t415, A50, H⟩ := H
  try dsimp only at H
  have A5 := sd_ A50
  clear A50
  by_cases c6 : t415 = a1
  ·rw [if_pos c6] at H
   have c6b0 : (t415 == a1) = true := beq_iff_eq.mpr c6
   have c6b1 : (t415 != a1) = false := bne_eq_false_iff_eq.mpr c6
   clear c6
   replace H := Option.bind_eq_some_iff.mp H
   obtain ⟨t416, A70, H⟩ := H
   try dsimp only at H
   have A7 := sd_ A70
   clear A70
   by_cases c8 : t416 = a1
   ·rw [if_pos c8] at H
    have c8b0 : (t416 == a1) = true := beq_iff_eq.mpr c8
    have c8b1 : (t416 != a1) = false := bne_eq_false_iff_eq.mpr c8
    clear c8
    replace H := Option.bind_eq_some_iff.mp H
    obtain ⟨t417, A90, H⟩ := H
    try dsimp only at H
    have A9 := sd_ A90
    clear A90
    by_cases c10 : t417 = 0
    ·rw [if_pos c10] at H
     have c10b0 : (t417 == 0) = true := beq_iff_eq.mpr c10
     have c10b1 : (t417 != 0) = false := bne_eq_false_iff_eq.mpr c10
     clear c10
     replace H := Option.bind_eq_some_iff.mp H
     obtain ⟨t418, A110, H⟩ := H
     try dsimp only at H
     have A11 := sd_ A110
     clear A110
     by_cases c12 : t418 = 0
     ·rw [if_pos c12] at H
      have c12b0 : (t418 == 0) = true := beq_iff_eq.mpr c12
      have c12b1 : (t418 != 0) = false := bne_eq_false_iff_eq.mpr c12
      clear c12
      replace H := Option.bind_eq_some_iff.mp H
      obtain ⟨t419, A130, H⟩ := H
      try dsimp only at H
      have A13 := sd_ A130
      clear A130
      obtain rfl := Option.some.inj H
      go_enter Try.func102, Try.ntmps102
      go_wp2_with (first | ((with_reducible refine gate_dst (N := 2) rfl ?_); refine bx_ (N := 2) (cs := #[.int .i64 a0_0, .slice A0_1 l0_1.length c0_1, .slice A0_2 l0_2.length c0_2, .slice A0_3 l0_3.length c0_3]) (t := 27) ?_; intro gb413 hg w14 hbox hb; have BK413 := sd_ (hbox); have GW413 := sd_ (gs_ hg (bw0_ HB.out)); have GE413 := sd_ (gs_ hg (bw0_ HB.out)); replace HB := sd_ (below_step (bw0_ HB.out) hb); clear hb hbox hg; obtain ⟨hcz15_0, hcz15_1, hcz15_2, hcz15_3, hfz15_0, hfz15_1, hfz15_2, hfz15_3⟩ := bf4_ BK413.out) | ((with_reducible refine gate_callee (f := 88) rfl ?_); refine goesL_ (some 7) rfl rfl Try.func88 (by kernel_rfl) rfl #[.agg #[.int .i64 a0_0, .slice A0_1 l0_1.length c0_1, .slice A0_2 l0_2.length c0_2, .slice A0_3 l0_3.length c0_3], .int .i64 0, .int .i64 a1] rfl la_ ?_; (with_reducible refine (spec_l1Add.calls a0_0 _ _ l0_1 _ _ l0_2 _ _ l0_3 0 a1 t414 _ (kc_ HR0_1.out HB.out) HC0_1.out (kc_ HR0_2.out HB.out) HC0_2.out (kc_ HR0_3.out HB.out) HC0_3.out A3.out).mono ?_); rintro e w16 ⟨rfl, hb⟩; refine ⟨_, rfl, ?_⟩; replace BK413 := sd_ (bb_ BK413.out hb); replace HB := sd_ (below_step (bw1_ HB.out GE413.out) hb); (try clear hb); obtain ⟨hcz17_0, hcz17_1, hcz17_2, hcz17_3, hfz17_0, hfz17_1, hfz17_2, hfz17_3⟩ := bf4_ BK413.out) | (go_at_call 89; (with_reducible refine (spec_l1Mul.calls a0_0 _ _ l0_1 _ _ l0_2 _ _ l0_3 1 a1 t415 _ (kc_ HR0_1.out HB.out) HC0_1.out (kc_ HR0_2.out HB.out) HC0_2.out (kc_ HR0_3.out HB.out) HC0_3.out A5.out).mono ?_); rintro e w18 ⟨rfl, hb⟩; replace BK413 := sd_ (bb_ BK413.out hb); replace HB := sd_ (below_step (bw1_ HB.out GE413.out) hb); (try clear hb); obtain ⟨hcz19_0, hcz19_1, hcz19_2, hcz19_3, hfz19_0, hfz19_1, hfz19_2, hfz19_3⟩ := bf4_ BK413.out) | (go_at_call 89; (with_reducible refine (spec_l1Mul.calls a0_0 _ _ l0_1 _ _ l0_2 _ _ l0_3 a1 1 t416 _ (kc_ HR0_1.out HB.out) HC0_1.out (kc_ HR0_2.out HB.out) HC0_2.out (kc_ HR0_3.out HB.out) HC0_3.out A7.out).mono ?_); rintro e w20 ⟨rfl, hb⟩; replace BK413 := sd_ (bb_ BK413.out hb); replace HB := sd_ (below_step (bw1_ HB.out GE413.out) hb); (try clear hb); obtain ⟨hcz21_0, hcz21_1, hcz21_2, hcz21_3, hfz21_0, hfz21_1, hfz21_2, hfz21_3⟩ := bf4_ BK413.out) | (go_at_call 89; (with_reducible refine (spec_l1Mul.calls a0_0 _ _ l0_1 _ _ l0_2 _ _ l0_3 0 a1 t417 _ (kc_ HR0_1.out HB.out) HC0_1.out (kc_ HR0_2.out HB.out) HC0_2.out (kc_ HR0_3.out HB.out) HC0_3.out A9.out).mono ?_); rintro e w22 ⟨rfl, hb⟩; replace BK413 := sd_ (bb_ BK413.out hb); replace HB := sd_ (below_step (bw1_ HB.out GE413.out) hb); (try clear hb); obtain ⟨hcz23_0, hcz23_1, hcz23_2, hcz23_3, hfz23_0, hfz23_1, hfz23_2, hfz23_3⟩ := bf4_ BK413.out) | (go_at_call 89; (with_reducible refine (spec_l1Mul.calls a0_0 _ _ l0_1 _ _ l0_2 _ _ l0_3 a1 0 t418 _ (kc_ HR0_1.out HB.out) HC0_1.out (kc_ HR0_2.out HB.out) HC0_2.out (kc_ HR0_3.out HB.out) HC0_3.out A11.out).mono ?_); rintro e w24 ⟨rfl, hb⟩; replace BK413 := sd_ (bb_ BK413.out hb); replace HB := sd_ (below_step (bw1_ HB.out GE413.out) hb); (try clear hb); obtain ⟨hcz25_0, hcz25_1, hcz25_2, hcz25_3, hfz25_0, hfz25_1, hfz25_2, hfz25_3⟩ := bf4_ BK413.out) | (go_at_call 90; (with_reducible refine (spec_l1Le.calls a0_0 _ _ l0_1 _ _ l0_2 _ _ l0_3 a1 a1 t419 _ (kc_ HR0_1.out HB.out) HC0_1.out (kc_ HR0_2.out HB.out) HC0_2.out (kc_ HR0_3.out HB.out) HC0_3.out A13.out).mono ?_); rintro e w26 ⟨rfl, hb⟩; replace BK413 := sd_ (bb_ BK413.out hb); replace HB := sd_ (below_step (bw1_ HB.out GE413.out) hb); (try clear hb)))
      go_ret
      exact ⟨an_, bw1_ HB.out GE413.out⟩
     ·rw [if_neg c12] at H
      have c12b0 : (t418 == 0) = false := beq_eq_false_iff_ne.mpr c12
      have c12b1 : (t418 != 0) = true := bne_iff_ne.mpr c12
      obtain rfl := Option.some.inj H
      go_enter Try.func102, Try.ntmps102
      go_wp2_with (first | ((with_reducible refine gate_dst (N := 2) rfl ?_); refine bx_ (N := 2) (cs := #[.int .i64 a0_0, .slice A0_1 l0_1.length c0_1, .slice A0_2 l0_2.length c0_2, .slice A0_3 l0_3.length c0_3]) (t := 27) ?_; intro gb413 hg w27 hbox hb; have BK413 := sd_ (hbox); have GW413 := sd_ (gs_ hg (bw0_ HB.out)); have GE413 := sd_ (gs_ hg (bw0_ HB.out)); replace HB := sd_ (below_step (bw0_ HB.out) hb); clear hb hbox hg; obtain ⟨hcz28_0, hcz28_1, hcz28_2, hcz28_3, hfz28_0, hfz28_1, hfz28_2, hfz28_3⟩ := bf4_ BK413.out) | ((with_reducible refine gate_callee (f := 88) rfl ?_); refine goesL_ (some 7) rfl rfl Try.func88 (by kernel_rfl) rfl #[.agg #[.int .i64 a0_0, .slice A0_1 l0_1.length c0_1, .slice A0_2 l0_2.length c0_2, .slice A0_3 l0_3.length c0_3], .int .i64 0, .int .i64 a1] rfl la_ ?_; (with_reducible refine (spec_l1Add.calls a0_0 _ _ l0_1 _ _ l0_2 _ _ l0_3 0 a1 t414 _ (kc_ HR0_1.out HB.out) HC0_1.out (kc_ HR0_2.out HB.out) HC0_2.out (kc_ HR0_3.out HB.out) HC0_3.out A3.out).mono ?_); rintro e w29 ⟨rfl, hb⟩; refine ⟨_, rfl, ?_⟩; replace BK413 := sd_ (bb_ BK413.out hb); replace HB := sd_ (below_step (bw1_ HB.out GE413.out) hb); (try clear hb); obtain ⟨hcz30_0, hcz30_1, hcz30_2, hcz30_3, hfz30_0, hfz30_1, hfz30_2, hfz30_3⟩ := bf4_ BK413.out) | (go_at_call 89; (with_reducible refine (spec_l1Mul.calls a0_0 _ _ l0_1 _ _ l0_2 _ _ l0_3 1 a1 t415 _ (kc_ HR0_1.out HB.out) HC0_1.out (kc_ HR0_2.out HB.out) HC0_2.out (kc_ HR0_3.out HB.out) HC0_3.out A5.out).mono ?_); rintro e w31 ⟨rfl, hb⟩; replace BK413 := sd_ (bb_ BK413.out hb); replace HB := sd_ (below_step (bw1_ HB.out GE413.out) hb); (try clear hb); obtain ⟨hcz32_0, hcz32_1, hcz32_2, hcz32_3, hfz32_0, hfz32_1, hfz32_2, hfz32_3⟩ := bf4_ BK413.out) | (go_at_call 89; (with_reducible refine (spec_l1Mul.calls a0_0 _ _ l0_1 _ _ l0_2 _ _ l0_3 a1 1 t416 _ (kc_ HR0_1.out HB.out) HC0_1.out (kc_ HR0_2.out HB.out) HC0_2.out (kc_ HR0_3.out HB.out) HC0_3.out A7.out).mono ?_); rintro e w33 ⟨rfl, hb⟩; replace BK413 := sd_ (bb_ BK413.out hb); replace HB := sd_ (below_step (bw1_ HB.out GE413.out) hb); (try clear hb); obtain ⟨hcz34_0, hcz34_1, hcz34_2, hcz34_3, hfz34_0, hfz34_1, hfz34_2, hfz34_3⟩ := bf4_ BK413.out) | (go_at_call 89; (with_reducible refine (spec_l1Mul.calls a0_0 _ _ l0_1 _ _ l0_2 _ _ l0_3 0 a1 t417 _ (kc_ HR0_1.out HB.out) HC0_1.out (kc_ HR0_2.out HB.out) HC0_2.out (kc_ HR0_3.out HB.out) HC0_3.out A9.out).mono ?_); rintro e w35 ⟨rfl, hb⟩; replace BK413 := sd_ (bb_ BK413.out hb); replace HB := sd_ (below_step (bw1_ HB.out GE413.out) hb); (try clear hb); obtain ⟨hcz36_0, hcz36_1, hcz36_2, hcz36_3, hfz36_0, hfz36_1, hfz36_2, hfz36_3⟩ := bf4_ BK413.out) | (go_at_call 89; (with_reducible refine (spec_l1Mul.calls a0_0 _ _ l0_1 _ _ l0_2 _ _ l0_3 a1 0 t418 _ (kc_ HR0_1.out HB.out) HC0_1.out (kc_ HR0_2.out HB.out) HC0_2.out (kc_ HR0_3.out HB.out) HC0_3.out A11.out).mono ?_); rintro e w37 ⟨rfl, hb⟩; replace BK413 := sd_ (bb_ BK413.out hb); replace HB := sd_ (below_step (bw1_ HB.out GE413.out) hb); (try clear hb)))
      go_ret
      exact ⟨an_, bw1_ HB.out GE413.out⟩
    ·rw [if_neg c10] at H
     have c10b0 : (t417 == 0) = false := beq_eq_false_iff_ne.mpr c10
     have c10b1 : (t417 != 0) = true := bne_iff_ne.mpr c10
     obtain rfl := Option.some.inj H
     go_enter Try.func102, Try.ntmps102
     go_wp2_with (first | ((with_reducible refine gate_dst (N := 2) rfl ?_); refine bx_ (N := 2) (cs := #[.int .i64 a0_0, .slice A0_1 l0_1.length c0_1, .slice A0_2 l0_2.length c0_2, .slice A0_3 l0_3.length c0_3]) (t := 27) ?_; intro gb413 hg w38 hbox hb; have BK413 := sd_ (hbox); have GW413 := sd_ (gs_ hg (bw0_ HB.out)); have GE413 := sd_ (gs_ hg (bw0_ HB.out)); replace HB := sd_ (below_step (bw0_ HB.out) hb); clear hb hbox hg; obtain ⟨hcz39_0, hcz39_1, hcz39_2, hcz39_3, hfz39_0, hfz39_1, hfz39_2, hfz39_3⟩ := bf4_ BK413.out) | ((with_reducible refine gate_callee (f := 88) rfl ?_); refine goesL_ (some 7) rfl rfl Try.func88 (by kernel_rfl) rfl #[.agg #[.int .i64 a0_0, .slice A0_1 l0_1.length c0_1, .slice A0_2 l0_2.length c0_2, .slice A0_3 l0_3.length c0_3], .int .i64 0, .int .i64 a1] rfl la_ ?_; (with_reducible refine (spec_l1Add.calls a0_0 _ _ l0_1 _ _ l0_2 _ _ l0_3 0 a1 t414 _ (kc_ HR0_1.out HB.out) HC0_1.out (kc_ HR0_2.out HB.out) HC0_2.out (kc_ HR0_3.out HB.out) HC0_3.out A3.out).mono ?_); rintro e w40 ⟨rfl, hb⟩; refine ⟨_, rfl, ?_⟩; replace BK413 := sd_ (bb_ BK413.out hb); replace HB := sd_ (below_step (bw1_ HB.out GE413.out) hb); (try clear hb); obtain ⟨hcz41_0, hcz41_1, hcz41_2, hcz41_3, hfz41_0, hfz41_1, hfz41_2, hfz41_3⟩ := bf4_ BK413.out) | (go_at_call 89; (with_reducible refine (spec_l1Mul.calls a0_0 _ _ l0_1 _ _ l0_2 _ _ l0_3 1 a1 t415 _ (kc_ HR0_1.out HB.out) HC0_1.out (kc_ HR0_2.out HB.out) HC0_2.out (kc_ HR0_3.out HB.out) HC0_3.out A5.out).mono ?_); rintro e w42 ⟨rfl, hb⟩; replace BK413 := sd_ (bb_ BK413.out hb); replace HB := sd_ (below_step (bw1_ HB.out GE413.out) hb); (try clear hb); obtain ⟨hcz43_0, hcz43_1, hcz43_2, hcz43_3, hfz43_0, hfz43_1, hfz43_2, hfz43_3⟩ := bf4_ BK413.out) | (go_at_call 89; (with_reducible refine (spec_l1Mul.calls a0_0 _ _ l0_1 _ _ l0_2 _ _ l0_3 a1 1 t416 _ (kc_ HR0_1.out HB.out) HC0_1.out (kc_ HR0_2.out HB.out) HC0_2.out (kc_ HR0_3.out HB.out) HC0_3.out A7.out).mono ?_); rintro e w44 ⟨rfl, hb⟩; replace BK413 := sd_ (bb_ BK413.out hb); replace HB := sd_ (below_step (bw1_ HB.out GE413.out) hb); (try clear hb); obtain ⟨hcz45_0, hcz45_1, hcz45_2, hcz45_3, hfz45_0, hfz45_1, hfz45_2, hfz45_3⟩ := bf4_ BK413.out) | (go_at_call 89; (with_reducible refine (spec_l1Mul.calls a0_0 _ _ l0_1 _ _ l0_2 _ _ l0_3 0 a1 t417 _ (kc_ HR0_1.out HB.out) HC0_1.out (kc_ HR0_2.out HB.out) HC0_2.out (kc_ HR0_3.out HB.out) HC0_3.out A9.out).mono ?_); rintro e w46 ⟨rfl, hb⟩; replace BK413 := sd_ (bb_ BK413.out hb); replace HB := sd_ (below_step (bw1_ HB.out GE413.out) hb); (try clear hb)))
     go_ret
     exact ⟨an_, bw1_ HB.out GE413.out⟩
   ·rw [if_neg c8] at H
    have c8b0 : (t416 == a1) = false := beq_eq_false_iff_ne.mpr c8
    have c8b1 : (t416 != a1) = true := bne_iff_ne.mpr c8
    obtain rfl := Option.some.inj H
    go_enter Try.func102, Try.ntmps102
    go_wp2_with (first | ((with_reducible refine gate_dst (N := 2) rfl ?_); refine bx_ (N := 2) (cs := #[.int .i64 a0_0, .slice A0_1 l0_1.length c0_1, .slice A0_2 l0_2.length c0_2, .slice A0_3 l0_3.length c0_3]) (t := 27) ?_; intro gb413 hg w47 hbox hb; have BK413 := sd_ (hbox); have GW413 := sd_ (gs_ hg (bw0_ HB.out)); have GE413 := sd_ (gs_ hg (bw0_ HB.out)); replace HB := sd_ (below_step (bw0_ HB.out) hb); clear hb hbox hg; obtain ⟨hcz48_0, hcz48_1, hcz48_2, hcz48_3, hfz48_0, hfz48_1, hfz48_2, hfz48_3⟩ := bf4_ BK413.out) | ((with_reducible refine gate_callee (f := 88) rfl ?_); refine goesL_ (some 7) rfl rfl Try.func88 (by kernel_rfl) rfl #[.agg #[.int .i64 a0_0, .slice A0_1 l0_1.length c0_1, .slice A0_2 l0_2.length c0_2, .slice A0_3 l0_3.length c0_3], .int .i64 0, .int .i64 a1] rfl la_ ?_; (with_reducible refine (spec_l1Add.calls a0_0 _ _ l0_1 _ _ l0_2 _ _ l0_3 0 a1 t414 _ (kc_ HR0_1.out HB.out) HC0_1.out (kc_ HR0_2.out HB.out) HC0_2.out (kc_ HR0_3.out HB.out) HC0_3.out A3.out).mono ?_); rintro e w49 ⟨rfl, hb⟩; refine ⟨_, rfl, ?_⟩; replace BK413 := sd_ (bb_ BK413.out hb); replace HB := sd_ (below_step (bw1_ HB.out GE413.out) hb); (try clear hb); obtain ⟨hcz50_0, hcz50_1, hcz50_2, hcz50_3, hfz50_0, hfz50_1, hfz50_2, hfz50_3⟩ := bf4_ BK413.out) | (go_at_call 89; (with_reducible refine (spec_l1Mul.calls a0_0 _ _ l0_1 _ _ l0_2 _ _ l0_3 1 a1 t415 _ (kc_ HR0_1.out HB.out) HC0_1.out (kc_ HR0_2.out HB.out) HC0_2.out (kc_ HR0_3.out HB.out) HC0_3.out A5.out).mono ?_); rintro e w51 ⟨rfl, hb⟩; replace BK413 := sd_ (bb_ BK413.out hb); replace HB := sd_ (below_step (bw1_ HB.out GE413.out) hb); (try clear hb); obtain ⟨hcz52_0, hcz52_1, hcz52_2, hcz52_3, hfz52_0, hfz52_1, hfz52_2, hfz52_3⟩ := bf4_ BK413.out) | (go_at_call 89; (with_reducible refine (spec_l1Mul.calls a0_0 _ _ l0_1 _ _ l0_2 _ _ l0_3 a1 1 t416 _ (kc_ HR0_1.out HB.out) HC0_1.out (kc_ HR0_2.out HB.out) HC0_2.out (kc_ HR0_3.out HB.out) HC0_3.out A7.out).mono ?_); rintro e w53 ⟨rfl, hb⟩; replace BK413 := sd_ (bb_ BK413.out hb); replace HB := sd_ (below_step (bw1_ HB.out GE413.out) hb); (try clear hb)))
    go_ret
    exact ⟨an_, bw1_ HB.out GE413.out⟩
  ·rw [if_neg c6] at H
   have c6b0 : (t415 == a1) = false := beq_eq_false_iff_ne.mpr c6
   have c6b1 : (t415 != a1) = true := bne_iff_ne.mpr c6
   obtain rfl := Option.some.inj H
   go_enter Try.func102, Try.ntmps102
   go_wp2_with (first | ((with_reducible refine gate_dst (N := 2) rfl ?_); refine bx_ (N := 2) (cs := #[.int .i64 a0_0, .slice A0_1 l0_1.length c0_1, .slice A0_2 l0_2.length c0_2, .slice A0_3 l0_3.length c0_3]) (t := 27) ?_; intro gb413 hg w54 hbox hb; have BK413 := sd_ (hbox); have GW413 := sd_ (gs_ hg (bw0_ HB.out)); have GE413 := sd_ (gs_ hg (bw0_ HB.out)); replace HB := sd_ (below_step (bw0_ HB.out) hb); clear hb hbox hg; obtain ⟨hcz55_0, hcz55_1, hcz55_2, hcz55_3, hfz55_0, hfz55_1, hfz55_2, hfz55_3⟩ := bf4_ BK413.out) | ((with_reducible refine gate_callee (f := 88) rfl ?_); refine goesL_ (some 7) rfl rfl Try.func88 (by kernel_rfl) rfl #[.agg #[.int .i64 a0_0, .slice A0_1 l0_1.length c0_1, .slice A0_2 l0_2.length c0_2, .slice A0_3 l0_3.length c0_3], .int .i64 0, .int .i64 a1] rfl la_ ?_; (with_reducible refine (spec_l1Add.calls a0_0 _ _ l0_1 _ _ l0_2 _ _ l0_3 0 a1 t414 _ (kc_ HR0_1.out HB.out) HC0_1.out (kc_ HR0_2.out HB.out) HC0_2.out (kc_ HR0_3.out HB.out) HC0_3.out A3.out).mono ?_); rintro e w56 ⟨rfl, hb⟩; refine ⟨_, rfl, ?_⟩; replace BK413 := sd_ (bb_ BK413.out hb); replace HB := sd_ (below_step (bw1_ HB.out GE413.out) hb); (try clear hb); obtain ⟨hcz57_0, hcz57_1, hcz57_2, hcz57_3, hfz57_0, hfz57_1, hfz57_2, hfz57_3⟩ := bf4_ BK413.out) | (go_at_call 89; (with_reducible refine (spec_l1Mul.calls a0_0 _ _ l0_1 _ _ l0_2 _ _ l0_3 1 a1 t415 _ (kc_ HR0_1.out HB.out) HC0_1.out (kc_ HR0_2.out HB.out) HC0_2.out (kc_ HR0_3.out HB.out) HC0_3.out A5.out).mono ?_); rintro e w58 ⟨rfl, hb⟩; replace BK413 := sd_ (bb_ BK413.out hb); replace HB := sd_ (below_step (bw1_ HB.out GE413.out) hb); (try clear hb)))
   go_ret
   exact ⟨an_, bw1_ HB.out GE413.out⟩
 ·rw [if_neg c4] at H
  have c4b0 : (t414 == a1) = false := beq_eq_false_iff_ne.mpr c4
  have c4b1 : (t414 != a1) = true := bne_iff_ne.mpr c4
  obtain rfl := Option.some.inj H
  go_enter Try.func102, Try.ntmps102
  go_wp2_with (first | ((with_reducible refine gate_dst (N := 2) rfl ?_); refine bx_ (N := 2) (cs := #[.int .i64 a0_0, .slice A0_1 l0_1.length c0_1, .slice A0_2 l0_2.length c0_2, .slice A0_3 l0_3.length c0_3]) (t := 27) ?_; intro gb413 hg w59 hbox hb; have BK413 := sd_ (hbox); have GW413 := sd_ (gs_ hg (bw0_ HB.out)); have GE413 := sd_ (gs_ hg (bw0_ HB.out)); replace HB := sd_ (below_step (bw0_ HB.out) hb); clear hb hbox hg; obtain ⟨hcz60_0, hcz60_1, hcz60_2, hcz60_3, hfz60_0, hfz60_1, hfz60_2, hfz60_3⟩ := bf4_ BK413.out) | ((with_reducible refine gate_callee (f := 88) rfl ?_); refine goesL_ (some 7) rfl rfl Try.func88 (by kernel_rfl) rfl #[.agg #[.int .i64 a0_0, .slice A0_1 l0_1.length c0_1, .slice A0_2 l0_2.length c0_2, .slice A0_3 l0_3.length c0_3], .int .i64 0, .int .i64 a1] rfl la_ ?_; (with_reducible refine (spec_l1Add.calls a0_0 _ _ l0_1 _ _ l0_2 _ _ l0_3 0 a1 t414 _ (kc_ HR0_1.out HB.out) HC0_1.out (kc_ HR0_2.out HB.out) HC0_2.out (kc_ HR0_3.out HB.out) HC0_3.out A3.out).mono ?_); rintro e w61 ⟨rfl, hb⟩; refine ⟨_, rfl, ?_⟩; replace BK413 := sd_ (bb_ BK413.out hb); replace HB := sd_ (below_step (bw1_ HB.out GE413.out) hb); (try clear hb)))
  go_ret
  exact ⟨an_, bw1_ HB.out GE413.out⟩


/-! ### slices_IndexFunc_int_int: function 123 -/
def slices_IndexFunc_int_int.l0 : Nat → List Int → (Int → Option (Bool)) → Int → Int → Option (Int)
 | 0, _, _, _, _ => none
 | k + 1, x0, x1, x7, x8 => if x8 < x7 then (if 0 ≤ x8 then (if x8 < (x0.length : Int) then ((x1 (rd x0 x8)).bind fun t310 => (if t310 = true then (some x8) else (slices_IndexFunc_int_int.l0 k x0 x1 x7 (wrap64 (x8 + 1))))) else (none)) else (none)) else (some (-1))
def slices_IndexFunc_int_int.f (k : Nat) (l0 : List Int) (x1 : (Int → Option (Bool))) : Option (Int) := slices_IndexFunc_int_int.l0 k l0 x1 (l0.length : Int) 0
set_option maxHeartbeats 8000000 in
set_option maxRecDepth 100000 in
theorem slices_IndexFunc_int_int.calls (k : Nat) (A0 : Option Addr) (c0 : Nat) (l0 : List Int) (x1 : (Int → Option (Bool))) (K1_ : Nat) (F1_ C1_ : Array Value) (r : Int) (w : World) (hr0 : Kd.C (Kd.int .i64) w A0 l0.length l0) (hc0 : l0.length ≤ c0) (hG1 : OFn K1_) (hF1 : OC73 w x1 K1_ F1_ C1_) (h : slices_IndexFunc_int_int.f k l0 x1 = some r) :
  Calls Try.prog 123 #[.slice A0 l0.length c0, .func (.func K1_) F1_ C1_] w fun e w' => e = .returned (.int .i64 r) ∧ Below w.heap.size w w' := by
 have HR0 := sd_ hr0
 have HC0 := sd_ hc0
 clear hr0 hc0
 have HG1 := sd_ hG1
 have HF1 := sd_ hF1
 clear hG1 hF1
 have HB := sd_ (Below.refl w.heap.size w)
 have H : (slices_IndexFunc_int_int.l0 k l0 x1 (l0.length : Int) 0) = some r := h
 clear h
 have H' := sd_ H
 clear H
 go_enter Try.func123, Try.ntmps123
 go_wp2
 go_loopg [8] k (fun kq v8 w' => ∃ (x8_1 : Int), v8 = .int .i64 x8_1 ∧ Aside0 (slices_IndexFunc_int_int.l0 kq l0 x1 (l0.length : Int) x8_1 = some r) ∧ Aside0 (kq ≤ k) ∧ Aside0 (Below w.heap.size w w'))
 case atStart => exact ⟨(0), sm_, H', ⟨Nat.le_refl _⟩, ⟨bw0_ HB.out⟩⟩
 case round =>
  clear H'
  try clear c1
  try clear p2
  obtain ⟨x8_1, rfl, HA, HK1, HB⟩ := hrel
  cases gk with
  | zero => exact absurd HA.out (by simp [slices_IndexFunc_int_int.l0])
  | succ k1 =>
   have H := HA.out
   clear HA
   simp only [slices_IndexFunc_int_int.l0] at H
   by_cases c3 : x8_1 < (l0.length : Int)
   ·rw [if_pos c3] at H
    have c3b0 : decide (x8_1 < (l0.length : Int)) = true := decide_eq_true c3
    clear c3
    by_cases c4 : 0 ≤ x8_1
    ·rw [if_pos c4] at H
     have c4b0 : decide (0 ≤ x8_1) = true := decide_eq_true c4
     clear c4
     by_cases c5 : x8_1 < (l0.length : Int)
     ·rw [if_pos c5] at H
      have c5b0 : decide (x8_1 < (l0.length : Int)) = true := decide_eq_true c5
      clear c5
      replace H := Option.bind_eq_some_iff.mp H
      obtain ⟨t310, A60, H⟩ := H
      try dsimp only at H
      have A6 := sd_ A60
      clear A60
      have HP7 := sd_ H
      clear H
      have p309 : 0 ≤ (x8_1 : Int) := dt_
      have q309 : x8_1 < (l0.length : Int) := dt_
      obtain ⟨ad309, e309, hx309_0⟩ := Kd.at_int HR0.out x8_1 p309 q309
      cases e309
      replace hx309_0 := (HB.out.cell (World.block_lt_of_cell? w _ hx309_0)).trans hx309_0
      replace p309 := eq_true p309
      replace q309 := eq_true q309
      go_upto_if 16 with (first | ((with_reducible refine gate_calleeO (t := 11) rfl ?_); refine goesOL_ (some 16) rfl rfl HG1.out #[.int .i64 (rd l0 x8_1)] rfl la_ rfl ?_; (with_reducible refine (HF1.out (rd l0 x8_1) t310 _ ?side1 A6.out).mono ?_); (case side1 => exact (bw0_ HB.out)); rintro e w8 ⟨rfl, hb⟩; refine ⟨_, rfl, ?_⟩; have n0_ := sd_ (below_step (bw0_ HB.out) hb); clear HB; have HB := n0_; clear n0_; (try clear hb)))
      have H := HP7.out
      clear HP7
      by_cases c9 : t310 = true
      ·subst c9
       have H1 : (some x8_1) = some r := by rw [if_pos rfl] at H; exact H
       clear H
       have H := H1
       clear H1
       obtain rfl := Option.some.inj H
       go_wp2
       go_ret
       exact ⟨an_, bw0_ HB.out⟩
      ·replace c9 := Bool.eq_false_iff.mpr c9
       subst c9
       have H1 : (slices_IndexFunc_int_int.l0 k1 l0 x1 (l0.length : Int) (wrap64 (x8_1 + 1))) = some r := by rw [if_neg (show ¬ (false = true) by decide)] at H; exact H
       clear H
       have H := H1
       clear H1
       have H' := sd_ H
       clear H
       go_wp2
       go_roundg k1
       case measure => have := HK1.out; omega
       case rel => exact ⟨(wrap64 (x8_1 + 1)), sm_, H', ⟨by have := HK1.out; omega⟩, ⟨bw0_ HB.out⟩⟩
     ·rw [if_neg c5] at H
      exact absurd H (by simp)
    ·rw [if_neg c4] at H
     exact absurd H (by simp)
   ·rw [if_neg c3] at H
    have c3b0 : decide (x8_1 < (l0.length : Int)) = false := decide_eq_false c3
    clear c3
    obtain rfl := Option.some.inj H
    go_wp2
    go_ret
    exact ⟨an_, bw0_ HB.out⟩

end Go.Proofs.Ytcdmnofomoadlaa.P
end
