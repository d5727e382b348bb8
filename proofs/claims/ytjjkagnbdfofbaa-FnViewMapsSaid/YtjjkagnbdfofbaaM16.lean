-- Several texts in one (wip/tools/merge.py).
import Derived.Test.YtjjkagnbdfofbaaM2
import Derived.Test.YtjjkagnbdfofbaaM3
import Derived.Test.YtjjkagnbdfofbaaM9
import Derived.Test.YtjjkagnbdfofbaaPf50
import Derived.Test.YtjjkagnbdfofbaaM10
import Derived.Test.YtjjkagnbdfofbaaM6
import Derived.Test.YtjjkagnbdfofbaaC43
import Derived.Test.YtjjkagnbdfofbaaC44
section
namespace Go.Proofs.Ytjjkagnbdfofbaa.P
open Go.RowKit Go.Proofs.YtjjkagnbdfofbaaW.PrintWords Go.Proofs.YtjjkagnbdfofbaaW.PrintLast Go.Proofs.YtjjkagnbdfofbaaW.PrintMore
attribute [local go_sem] max2_int min2_int max_two min_two max_three min_three max_four min_four   -- for this text's walks alone
set_option linter.unusedVariables false
set_option linter.unusedSimpArgs false

def spec_dView.j0 : Nat → List (List Int) → Bool → List Int → Int → Int → Int → List Int → List Int → List Bool → Option (List Int × Int × Int)
 | 0, _, _, _, _, _, _, _, _, _ => none
 | k + 1, x5, x14, x1000, x1001, x1002, x443000, x443001, x443002, x443003 => if x14 = true then ((spec_l1Below.f x1000 x1001 x1002 3).bind fun bt449 => ((spec_dGrades.f k x1000 bt449.2.1 bt449.2.2 x443000 x443001 x443002 x443003 bt449.1).bind fun bt452 => (some (bt452.1, bt452.2.1, bt452.2.2)))) else ((spec_l1Below.f x1000 x1001 x1002 (x5.length : Int)).bind fun bt457 => (if 0 ≤ bt457.1 then (if bt457.1 < (x5.length : Int) then ((spec_l1Copy.f (rd_L3 x5 bt457.1)).bind fun t461 => (some (t461, bt457.2.1, bt457.2.2))) else (none)) else (none)))
def spec_dView.f (k : Nat) (s0_0 : List Int) (s0_1 : Int) (s0_2 : Int) (a1_0 : Int) (l1_1 : List Int) (l1_2 : List Int) (l1_3 : List Bool) : Option (List Int × Int × Int) := (spec_ViewsOf.f k a1_0 l1_1 l1_2 l1_3).bind fun t443 => (if (t443.length : Int) = 0 then (spec_dView.j0 k t443 true s0_0 s0_1 s0_2 a1_0 l1_1 l1_2 l1_3) else ((spec_l1Once.f s0_0 s0_1 s0_2 12).bind fun bt446 => (spec_dView.j0 k t443 bt446.1 s0_0 bt446.2.1 bt446.2.2 a1_0 l1_1 l1_2 l1_3)))
set_option maxHeartbeats 8000000 in
set_option maxRecDepth 100000 in
theorem spec_dView.calls (k : Nat) (g : Nat) (s0_0 : List Int) (s0_1 : Int) (s0_2 : Int) (a1_0 : Int) (A1_1 : Option Addr) (c1_1 : Nat) (l1_1 : List Int) (A1_2 : Option Addr) (c1_2 : Nat) (l1_2 : List Int) (A1_3 : Option Addr) (c1_3 : Nat) (l1_3 : List Bool) (r1 : List Int) (r2 : Int) (r3 : Int) (w0 w : World) (hI : IsS61 w0 w g s0_0 s0_1 s0_2) (hB : Below w0.heap.size w0 w) (hr1_1 : Kd.C (Kd.int .i64) w A1_1 l1_1.length l1_1) (hc1_1 : l1_1.length ≤ c1_1) (hf1_1 : ∀ ad, A1_1 = some ad → 0 < l1_1.length → ad.block ≠ g) (hr1_2 : Kd.C (Kd.int .i64) w A1_2 l1_2.length l1_2) (hc1_2 : l1_2.length ≤ c1_2) (hf1_2 : ∀ ad, A1_2 = some ad → 0 < l1_2.length → ad.block ≠ g) (hr1_3 : Kd.C Kd.bool w A1_3 l1_3.length l1_3) (hc1_3 : l1_3.length ≤ c1_3) (hf1_3 : ∀ ad, A1_3 = some ad → 0 < l1_3.length → ad.block ≠ g) (h : spec_dView.f k s0_0 s0_1 s0_2 a1_0 l1_1 l1_2 l1_3 = some (r1, r2, r3)) :
  Calls Try.prog 17 #[.pointer (some ⟨g, 0, none⟩), .agg #[.int .i64 a1_0, .slice A1_1 l1_1.length c1_1, .slice A1_2 l1_2.length c1_2, .slice A1_3 l1_3.length c1_3]] w fun e w' => ∃ v0_ : Value, e = .returned (v0_) ∧ Kd.R (Kd.int .i64) 3 w' w.heap.size (fun _ => True) v0_ r1 ∧ IsS61 w0 w' g s0_0 r2 r3 ∧ Below w0.heap.size w0 w' ∧ KeepBut w w' g none := by
 have hu27 := Try.underlying27; have HR1_1 := sd_ hr1_1; have HC1_1 := sd_ hc1_1; clear hr1_1 hc1_1; have HR1_2 := sd_ hr1_2; have HC1_2 := sd_ hc1_2; clear hr1_2 hc1_2; have HR1_3 := sd_ hr1_3; have HC1_3 := sd_ hc1_3; clear hr1_3 hc1_3; have HI0 := sd_ hI; have HK := sd_ (KeepBut.refl w g none); have HL := sd_ hB.size; clear hI; have HW0 := sd_ hB.size; have HB := sd_ hB; clear hB; have H : ((spec_ViewsOf.f k a1_0 l1_1 l1_2 l1_3).bind fun t443 => (if (t443.length : Int) = 0 then (spec_dView.j0 k t443 true s0_0 s0_1 s0_2 a1_0 l1_1 l1_2 l1_3) else ((spec_l1Once.f s0_0 s0_1 s0_2 12).bind fun bt446 => (spec_dView.j0 k t443 bt446.1 s0_0 bt446.2.1 bt446.2.2 a1_0 l1_1 l1_2 l1_3)))) = some (r1, r2, r3) := h; clear h
 revert H; refine ob_ fun t443 A3 H => ?_
 have HC4 := sd_ H; clear H; go_enter Try.func17, Try.ntmps17; go_upto_region 2 with (first | ((with_reducible refine gate_dst (N := 3) rfl ?_); refine bx_ (N := 3) (cs := #[.int .i64 a1_0, .slice A1_1 l1_1.length c1_1, .slice A1_2 l1_2.length c1_2, .slice A1_3 l1_3.length c1_3]) (t := 27) ?_; intro gb442 hg w5 hbox hb; replace HB := sd_ (below_step (bw1_ HB.out (IsS61.ge HI0.out)) hb); have BK442 := sd_ (hbox); have GW442 := sd_ ((by rw [hg]; exact (keep_size (w := w) (g := g) (row := none) (kb0_ HK.out)) : w.heap.size ≤ gb442)); have GE442 := sd_ ((Nat.le_trans HW0.out (by rw [hg]; exact (keep_size (w := w) (g := g) (row := none) (kb0_ HK.out)) : w.heap.size ≤ gb442) : w0.heap.size ≤ gb442)); replace HK := sd_ (KeepBut.trans (kb0_ HK.out) (KeepBut.of_below hb g none) (.inl rfl)); have NB0_442 := sd_ ((by rw [hg]; exact Nat.ne_of_lt (IsS61.lt (show IsS61 w0 _ g s0_0 s0_1 s0_2 from by repeat (first | (with_reducible first | exact HI0.out | apply IsS61.alloc | apply IsS61.drewN | apply IsS61.drew | apply IsS61.set_1 | apply IsS61.set_2) | exact HI0.out))) : g ≠ gb442)); have NB442_0 := sd_ ((by rw [hg]; exact Nat.ne_of_gt (IsS61.lt (show IsS61 w0 _ g s0_0 s0_1 s0_2 from by repeat (first | (with_reducible first | exact HI0.out | apply IsS61.alloc | apply IsS61.drewN | apply IsS61.drew | apply IsS61.set_1 | apply IsS61.set_2) | exact HI0.out))) : gb442 ≠ g)); replace HI0 := sd_ (IsS61.below (by repeat (first | (with_reducible first | exact HI0.out | apply IsS61.alloc | apply IsS61.drewN | apply IsS61.drew | apply IsS61.set_1 | apply IsS61.set_2) | exact HI0.out)) hb); clear hb hbox hg; have hnb6 := NB442_0.out; have hnc6 := NB0_442.out; obtain ⟨z7_0, z7_1, z7_2, z7_3, f7_0, f7_1, f7_2, f7_3⟩ := bf4_ BK442.out) | ((with_reducible refine gate_callee (f := 50) rfl ?_); refine goesL_ (some 7) rfl rfl Try.func50 (by kernel_rfl) rfl #[.agg #[.int .i64 a1_0, .slice A1_1 l1_1.length c1_1, .slice A1_2 l1_2.length c1_2, .slice A1_3 l1_3.length c1_3]] rfl la_ ?_; (with_reducible refine (spec_ViewsOf.calls k a1_0 _ _ l1_1 _ _ l1_2 _ _ l1_3 t443 _ ?side1 ?side2 ?side3 ?side4 ?side5 ?side6 A3.out).mono ?_); (case side1 => exact Kd.C_keep 0 HR1_1.out (kb1_ HK.out GW442.out) hf1_1); (case side2 => exact HC1_1.out); (case side3 => exact Kd.C_keep 0 HR1_2.out (kb1_ HK.out GW442.out) hf1_2); (case side4 => exact HC1_2.out); (case side5 => exact Kd.C_keep false HR1_3.out (kb1_ HK.out GW442.out) hf1_3); (case side6 => exact HC1_3.out); rintro e w8 ⟨v444, rfl, ho0, hb⟩; refine ⟨_, rfl, ?_⟩; have HO445 := sd_ (Kd.N_mono (Kd.N_lower ho0 (keep_size (w := w) (g := g) (row := none) (kb1_ HK.out GW442.out))) (fun k_ hk_ => Nat.ne_of_gt (Nat.lt_of_lt_of_le (IsS61.lt (show IsS61 w0 _ g s0_0 s0_1 s0_2 from by repeat (first | (with_reducible first | exact HI0.out | apply IsS61.alloc | apply IsS61.drewN | apply IsS61.drew) | exact HI0.out))) hk_))); replace BK442 := sd_ (bb_ BK442.out hb); replace HK := sd_ (KeepBut.trans (kb1_ HK.out GW442.out) (KeepBut.of_below hb g none) (.inl rfl)); replace HB := sd_ (below_step (bw2_ HB.out (IsS61.ge HI0.out) GE442.out) hb); replace HI0 := sd_ (IsS61.below (by repeat (first | (with_reducible first | exact HI0.out | apply IsS61.alloc | apply IsS61.drewN | apply IsS61.drew | apply IsS61.set_1 | apply IsS61.set_2 | refine IsS61.far ?_ NB0_442.out _) | exact HI0.out)) hb); (try clear hb); (try clear ho0))); (try simp only [Act.put, List.setIfInBounds_toArray, List.set_cons_zero, List.set_cons_succ])
 go_cut [14] (fun v14 wc => ∃ (kq : Nat) (x14_3 : Bool) (x1001_3 : Int) (x1002_3 : Int), v14 = .bool x14_3 ∧ Aside0 (spec_dView.j0 kq t443 x14_3 s0_0 x1001_3 x1002_3 a1_0 l1_1 l1_2 l1_3 = some (r1, r2, r3)) ∧ Aside0 (kq ≤ k) ∧ Aside0 (Kd.N (Kd.slice 3 (Kd.int .i64)) 24 wc w.heap.size (fun k_ => k_ ≠ g) v444 t443) ∧ Aside0 (wc.heap[gb442]? = some (.cells #[.int .i64 a1_0, (.slice A1_1 l1_1.length c1_1), (.slice A1_2 l1_2.length c1_2), (.slice A1_3 l1_3.length c1_3)] 27 (0, 0))) ∧ Aside0 (IsS61 w0 wc g s0_0 x1001_3 x1002_3) ∧ Aside0 (KeepBut w wc g none) ∧ Aside0 (Below w0.heap.size w0 wc))
 case first =>
  have H := HC4.out; clear HC4; by_cases c9 : (t443.length : Int) = 0
  ·rw [if_pos c9] at H; have c9b0 : ((t443.length : Int) == 0) = true := beq_iff_eq.mpr c9; have c9b1 : ((t443.length : Int) != 0) = false := bne_eq_false_iff_eq.mpr c9; clear c9; (first | rw [c9b0] | (simp only [i64_w, i32_w]; rw [c9b0]) | skip); have H' := sd_ H; clear H; obtain ⟨Ao10, co10, eo10⟩ := Kd.N_slice HO445.out; subst eo10; go_wp2; go_meet
   case rel => exact ⟨_, (true), (s0_1), (s0_2), sm_, H', ⟨by first | omega | exact Nat.le_refl _⟩, ⟨by (with_reducible repeat (first | apply Kd.N_alloc | apply Kd.N_drewN | apply Kd.N_drew)); exact HO445.out⟩, ⟨bz_ BK442.out⟩, ⟨by repeat (first | (with_reducible first | exact HI0.out | apply IsS61.alloc | apply IsS61.drewN | apply IsS61.drew | apply IsS61.set_1 | apply IsS61.set_2 | refine IsS61.far ?_ NB0_442.out _) | exact HI0.out)⟩, ⟨kb1_ HK.out GW442.out⟩, ⟨bw2_ HB.out (IsS61.ge HI0.out) GE442.out⟩⟩
  rw [if_neg c9] at H; have c9b0 : ((t443.length : Int) == 0) = false := beq_eq_false_iff_ne.mpr c9; have c9b1 : ((t443.length : Int) != 0) = true := bne_iff_ne.mpr c9
  have c9b2 : ¬ (t443 = []) := fun h_ => c9 (by rw [h_]; rfl)
  (first | rw [c9b0] | (simp only [i64_w, i32_w]; rw [c9b0]) | skip); replace H := oc_ H; obtain ⟨⟨t446, t447, t448⟩, A11, H⟩ := H; (try dsimp only at H); have H' := sd_ H; clear H; obtain ⟨Ao12, co12, eo12⟩ := Kd.N_slice HO445.out; subst eo12; go_wp2_with (first | (go_at_call 18; (with_reducible refine (spec_l1Once.calls g s0_0 s0_1 s0_2 12 t446 t447 t448 w0 _ ?side1 ?side2 A11.out).mono ?_); (case side1 => repeat (first | (with_reducible first | exact HI0.out | apply IsS61.alloc | apply IsS61.drewN | apply IsS61.drew | apply IsS61.set_1 | apply IsS61.set_2 | refine IsS61.far ?_ NB0_442.out _) | exact HI0.out)); (case side2 => repeat (first | (with_reducible first | exact HB.out | apply below_alloc | apply pw_below_drewN | apply below_drew1 | refine below_set ?_ (IsS61.ge HI0.out) | refine below_set ?_ GE442.out) | exact HB.out)); rintro e w13 ⟨rfl, hi, hb, hk⟩; replace BK442 := sd_ (KeepBut.blk hk (g' := gb442) (o := .cells #[.int .i64 a1_0, .slice A1_1 l1_1.length c1_1, .slice A1_2 l1_2.length c1_2, .slice A1_3 l1_3.length c1_3] 27 (0, 0)) (bz_ BK442.out) NB442_0.out (by simp)); replace HO445 := sd_ (Kd.N_keep (by (with_reducible repeat (first | apply Kd.N_alloc | apply Kd.N_drewN | apply Kd.N_drew)); exact HO445.out) hk (fun _ h => h)); replace HK := sd_ (KeepBut.trans (kb1_ HK.out GW442.out) hk (.inl rfl)); replace HB := sd_ (hb); replace HI0 := sd_ (hi); (try clear hb); (try clear hk); (try clear hi))); go_meet
  case rel => exact ⟨_, (t446), (t447), (t448), sm_, H', ⟨by first | omega | exact Nat.le_refl _⟩, ⟨by (with_reducible repeat (first | apply Kd.N_alloc | apply Kd.N_drewN | apply Kd.N_drew)); exact HO445.out⟩, ⟨bz_ BK442.out⟩, ⟨by repeat (first | (with_reducible first | exact HI0.out | apply IsS61.alloc | apply IsS61.drewN | apply IsS61.drew | apply IsS61.set_1 | apply IsS61.set_2 | refine IsS61.far ?_ NB0_442.out _) | exact HI0.out)⟩, ⟨kb1_ HK.out GW442.out⟩, ⟨bw2_ HB.out (IsS61.ge HI0.out) GE442.out⟩⟩
 case rest =>
  clear HC4; (try clear c1); (try clear c5); (try clear c6); (try clear z7_0 z7_1 z7_2 z7_3 f7_0 f7_1 f7_2 f7_3); obtain ⟨kq, x14_3, x1001_3, x1002_3, rfl, HA, HJ3, HO_5, BK442, HI0, HK, HB⟩ := hcut
  cases kq with
  | zero => exact absurd HA.out (by simp [spec_dView.j0])
  | succ kj3 =>
   have H := HA.out; clear HA; simp only [spec_dView.j0] at H; obtain rfl | rfl := bt_ x14_3
   ·replace H := it_ H; replace H := oc_ H; obtain ⟨⟨t449, t450, t451⟩, A15, H⟩ := H; (try dsimp only at H); replace H := oc_ H; obtain ⟨⟨t452, t455, t456⟩, A16, H⟩ := H; (try dsimp only at H); simp only [Option.some.injEq, Prod.mk.injEq] at H; obtain ⟨rfl, rfl, rfl⟩ := H
    try go_wp2
    replace HO_5 := sd_ (Kd.N_drew HO_5.out); replace BK442 := sd_ (blk_drew BK442.out); replace HI0 := sd_ (IsS61.drew HI0.out); replace HK := sd_ (keep_drew HK.out); replace HB := sd_ (below_drew1 HB.out); refine start_ (n := 6) (S := fun w' => c4_ gb442 (.int .i64 a1_0) (.slice A1_1 l1_1.length c1_1) (.slice A1_2 l1_2.length c1_2) (.slice A1_3 l1_3.length c1_3) w') (ds := []) #[false, false, false, false, false, false] (by kernel_rfl) rfl rfl (bc4_ BK442.out) (fun hHeld => ?_); generalize wc.drew = w17 at HO_5 BK442 HI0 HK HB hHeld ⊢; refine pv_ 0 rfl rfl (by kernel_rfl) ?_; refine pv_ 2 rfl rfl (by kernel_rfl) ?_; refine tk_ 1 rfl rfl (by kernel_rfl) hHeld (by rintro w' ⟨s0, s1, s2, s3⟩; go_simp; with_reducible rfl) ?_
    refine on_ 3 rfl rfl (by kernel_rfl) fun K hK => ?_
    refine goes_ Try.func37 (by kernel_rfl) rfl #[.pointer (some ⟨g, 0, none⟩), .int .i64 3] (by rfl) rfl rfl la_ ?_
    with_reducible refine (spec_l1Below.calls g s0_0 x1001_3 x1002_3 3 t449 t450 t451 w0 _ ?side1 ?side2 A15.out).mono ?_
    (case side1 => repeat (first | (with_reducible first | exact HI0.out | apply IsS61.alloc | apply IsS61.drewN | apply IsS61.drew | apply IsS61.set_1 | apply IsS61.set_2 | refine IsS61.far ?_ NB0_442.out _) | exact HI0.out)); (case side2 => repeat (first | (with_reducible first | exact HB.out | apply below_alloc | apply pw_below_drewN | apply below_drew1 | refine below_set ?_ (IsS61.ge HI0.out) | refine below_set ?_ GE442.out) | exact HB.out)); rintro e w18 ⟨rfl, hi, hb, hk⟩; refine ⟨_, rfl, ?_⟩; replace HO_5 := sd_ (Kd.N_keep (by (with_reducible repeat (first | apply Kd.N_alloc | apply Kd.N_drewN | apply Kd.N_drew)); exact HO_5.out) hk (fun _ h => h)); replace BK442 := sd_ (KeepBut.blk hk (g' := gb442) (o := .cells #[.int .i64 a1_0, .slice A1_1 l1_1.length c1_1, .slice A1_2 l1_2.length c1_2, .slice A1_3 l1_3.length c1_3] 27 (0, 0)) (bz_ BK442.out) NB442_0.out (by simp)); replace HK := sd_ (KeepBut.trans (kb1_ HK.out GW442.out) hk (.inl rfl)); replace HB := sd_ (hb); replace HI0 := sd_ (hi); (try clear hb); (try clear hb2); (try clear hk); (try clear hi); refine hK.out _ _ (bc4_ BK442.out) (fun hHeld => ?_); clear hK K; refine nm_ ?_
    refine on_ 4 rfl rfl (by kernel_rfl) fun K hK => ?_
    refine goes_ Try.func51 (by kernel_rfl) rfl #[.pointer (some ⟨g, 0, none⟩), .agg #[.int .i64 a1_0, .slice A1_1 l1_1.length c1_1, .slice A1_2 l1_2.length c1_2, .slice A1_3 l1_3.length c1_3], .int .i64 t449] (by rfl) rfl rfl la_ ?_
    with_reducible refine (spec_dGrades.calls kj3 g s0_0 t450 t451 a1_0 _ _ l1_1 _ _ l1_2 _ _ l1_3 t449 t452 t455 t456 w0 _ ?side1 ?side2 ?side3 ?side4 ?side5 ?side6 ?side7 ?side8 ?side9 ?side10 ?side11 A16.out).mono ?_
    (case side1 => repeat (first | (with_reducible first | exact HI0.out | apply IsS61.alloc | apply IsS61.drewN | apply IsS61.drew | apply IsS61.set_1 | apply IsS61.set_2 | refine IsS61.far ?_ NB0_442.out _) | exact HI0.out)); (case side2 => repeat (first | (with_reducible first | exact HB.out | apply below_alloc | apply pw_below_drewN | apply below_drew1 | refine below_set ?_ (IsS61.ge HI0.out) | refine below_set ?_ GE442.out) | exact HB.out)); (case side3 => exact Kd.C_keep 0 HR1_1.out (kb1_ HK.out GW442.out) hf1_1); (case side4 => exact HC1_1.out); (case side5 => exact hf1_1); (case side6 => exact Kd.C_keep 0 HR1_2.out (kb1_ HK.out GW442.out) hf1_2); (case side7 => exact HC1_2.out); (case side8 => exact hf1_2); (case side9 => exact Kd.C_keep false HR1_3.out (kb1_ HK.out GW442.out) hf1_3); (case side10 => exact HC1_3.out); (case side11 => exact hf1_3); rintro e w19 ⟨v453, rfl, ho0, hi, hb, hk⟩; refine ⟨_, rfl, ?_⟩; replace HO_5 := sd_ (Kd.N_mono (Kd.N_told (Kd.N_oldK (Kd.N_mono (by (with_reducible repeat (first | apply Kd.N_alloc | apply Kd.N_drewN | apply Kd.N_drew)); exact HO_5.out) (fun _ h => (⟨trivial, h⟩ : True ∧ _))) hk) (Kd.R_base ho0)) (fun _ h_ => h_.1)); replace BK442 := sd_ (KeepBut.blk hk (g' := gb442) (o := .cells #[.int .i64 a1_0, .slice A1_1 l1_1.length c1_1, .slice A1_2 l1_2.length c1_2, .slice A1_3 l1_3.length c1_3] 27 (0, 0)) (bz_ BK442.out) NB442_0.out (by simp)); have HO454 := sd_ (Kd.R_lower ho0 (keep_size (w := w) (g := g) (row := none) (kb1_ HK.out GW442.out))); replace HK := sd_ (KeepBut.trans (kb1_ HK.out GW442.out) hk (.inl rfl)); replace HB := sd_ (hb); replace HI0 := sd_ (hi); (try clear hb); (try clear hb2); (try clear hk); (try clear hi); (try clear ho0); refine hK.out _ _ (bc4_ BK442.out) (fun hHeld => ?_); clear hK K; refine nm_ ?_; refine pv_ 5 rfl rfl (by kernel_rfl) ?_; refine done_ (by kernel_rfl) ?_
    try go_wp2
    go_ret; exact ⟨_, an_, by (with_reducible repeat (first | apply Kd.R_alloc | apply Kd.R_drewN | apply Kd.R_drew)); exact HO454.out, by repeat (first | (with_reducible first | exact HI0.out | apply IsS61.alloc | apply IsS61.drewN | apply IsS61.drew | apply IsS61.set_1 | apply IsS61.set_2 | refine IsS61.far ?_ NB0_442.out _) | exact HI0.out), bw2_ HB.out (IsS61.ge HI0.out) GE442.out, kb1_ HK.out GW442.out⟩
   replace H := if_ H; replace H := oc_ H; obtain ⟨⟨t457, t458, t459⟩, A20, H⟩ := H; (try dsimp only at H)
   revert H; refine ih_ fun c21b0 H => ?_
   revert H; refine ih_ fun c22b0 H => ?_
   revert H; refine ob_ fun t461 A23 H => ?_
   simp only [Option.some.injEq, Prod.mk.injEq] at H; obtain ⟨rfl, rfl, rfl⟩ := H; obtain ⟨Ao24, co24, eo24⟩ := Kd.N_slice HO_5.out; subst eo24; go_wp2_with (first | ((with_reducible refine gate_callee (f := 37) rfl ?_); refine goesL_ (some 24) rfl rfl Try.func37 (by kernel_rfl) rfl #[.pointer (some ⟨g, 0, none⟩), .int .i64 (t443.length : Int)] rfl la_ ?_; (with_reducible refine (spec_l1Below.calls g s0_0 x1001_3 x1002_3 (t443.length : Int) t457 t458 t459 w0 _ ?side1 ?side2 A20.out).mono ?_); (case side1 => repeat (first | (with_reducible first | exact HI0.out | apply IsS61.alloc | apply IsS61.drewN | apply IsS61.drew | apply IsS61.set_1 | apply IsS61.set_2 | refine IsS61.far ?_ NB0_442.out _) | exact HI0.out)); (case side2 => repeat (first | (with_reducible first | exact HB.out | apply below_alloc | apply pw_below_drewN | apply below_drew1 | refine below_set ?_ (IsS61.ge HI0.out) | refine below_set ?_ GE442.out) | exact HB.out)); rintro e w25 ⟨rfl, hi, hb, hk⟩; refine ⟨_, rfl, ?_⟩; replace HO_5 := sd_ (Kd.N_keep (by (with_reducible repeat (first | apply Kd.N_alloc | apply Kd.N_drewN | apply Kd.N_drew)); exact HO_5.out) hk (fun _ h => h)); replace BK442 := sd_ (KeepBut.blk hk (g' := gb442) (o := .cells #[.int .i64 a1_0, .slice A1_1 l1_1.length c1_1, .slice A1_2 l1_2.length c1_2, .slice A1_3 l1_3.length c1_3] 27 (0, 0)) (bz_ BK442.out) NB442_0.out (by simp)); replace HK := sd_ (KeepBut.trans (kb1_ HK.out GW442.out) hk (.inl rfl)); replace HB := sd_ (hb); replace HI0 := sd_ (hi); (try clear hb); (try clear hk); (try clear hi); have p460 : 0 ≤ (t457 : Int) := dt_; have q460 : t457 < (t443.length : Int) := dt_; obtain ⟨ad460, A460_0, c460_0, e460, hx460_0, hl460_0, hi460_0⟩ := at_L3 (Kd.N_reads' HO_5.out).2.2 t457 p460 q460; cases e460; have HR460_0 := sd_ hi460_0; have HC460_0 := sd_ hl460_0; clear hi460_0 hl460_0; replace p460 := eq_true p460; replace q460 := eq_true q460) | ((with_reducible refine gate_callee (f := 52) rfl ?_); refine goesL_ (some 27) rfl rfl Try.func52 (by kernel_rfl) rfl #[.slice A460_0 (rd_L3 t443 t457).length c460_0] rfl la_ ?_; (with_reducible refine (spec_l1Copy.calls _ _ (rd_L3 t443 t457) t461 _ ?side1 ?side2 A23.out).mono ?_); (case side1 => repeat (first | exact (by repeat (first | (with_reducible exact HR460_0.out) | (with_reducible refine Kd.C_alloc ?_ _) | (with_reducible refine Kd.C_drewN ?_ _) | (with_reducible refine Kd.C_drew ?_) | exact HR460_0.out)) | (with_reducible refine Kd.C_alloc ?_ _) | (with_reducible refine Kd.C_drewN ?_ _) | (with_reducible refine Kd.C_drew ?_))); (case side2 => exact HC460_0.out); rintro e w26 ⟨v462, rfl, ho0, hb⟩; refine ⟨_, rfl, ?_⟩; replace HO_5 := sd_ (Kd.N_elder' (by (with_reducible repeat (first | apply Kd.N_alloc | apply Kd.N_drewN | apply Kd.N_drew)); exact HO_5.out) (Kd.R_base ho0) hb); have HO463 := sd_ (Kd.R_lower ho0 (keep_size (w := w) (g := g) (row := none) (kb1_ HK.out GW442.out))); replace BK442 := sd_ (bb_ BK442.out hb); replace HR460_0 := sd_ (Kd.C_below (by repeat (first | (with_reducible exact HR460_0.out) | (with_reducible refine Kd.C_alloc ?_ _) | (with_reducible refine Kd.C_drewN ?_ _) | (with_reducible refine Kd.C_drew ?_) | exact HR460_0.out)) hb); replace HK := sd_ (KeepBut.trans (kb1_ HK.out GW442.out) (KeepBut.of_below hb g none) (.inl rfl)); replace HB := sd_ (below_step (bw2_ HB.out (IsS61.ge HI0.out) GE442.out) hb); replace HI0 := sd_ (IsS61.below (by repeat (first | (with_reducible first | exact HI0.out | apply IsS61.alloc | apply IsS61.drewN | apply IsS61.drew | apply IsS61.set_1 | apply IsS61.set_2 | refine IsS61.far ?_ NB0_442.out _) | exact HI0.out)) hb); (try clear hb); (try clear ho0)))
   go_ret; exact ⟨_, an_, by (with_reducible repeat (first | apply Kd.R_alloc | apply Kd.R_drewN | apply Kd.R_drew)); exact Kd.R_mono HO463.out (fun _ hk => trivial), by repeat (first | (with_reducible first | exact HI0.out | apply IsS61.alloc | apply IsS61.drewN | apply IsS61.drew | apply IsS61.set_1 | apply IsS61.set_2 | refine IsS61.far ?_ NB0_442.out _) | exact HI0.out), bw2_ HB.out (IsS61.ge HI0.out) GE442.out, kb1_ HK.out GW442.out⟩

end Go.Proofs.Ytjjkagnbdfofbaa.P
end

section
/- Views that are drawn. -/
set_option linter.unusedSimpArgs false
set_option linter.unusedVariables false
namespace Go.Proofs.Ytjjkagnbdfofbaa.Pure
open Go.RowKit Go.Proofs.Ytjjkagnbdfofbaa.P Go.Proofs.YtjjkagnbdfofbaaW.PrintWords Go.Proofs.YtjjkagnbdfofbaaW.PrintLast
section
variable {c : List Int} (hc : c.length ≤ 1048576)
include hc
theorem gradeE (i h : Int) (h0 : 0 ≤ i) (n : Int) (p t : List Int) (b : List Bool) (hn : n ≤ 256) : ∃ x i' h', spec_dGrade.f c i h n p t b = some (x, i', h') ∧ 0 ≤ i' := by
  obtain ⟨x, i1, h1, e1, hi1⟩ := onceE hc i h 30 h0 (by omega)
  unfold spec_dGrade.f
  rw [e1, Option.bind_some]
  cases x
  · obtain ⟨x, i2, h2, e2, _, _, hi2⟩ := belowE hc i1 h1 n hi1 hn
    simp only [Bool.false_eq_true, if_false, e2, Option.bind_some]
    exact ⟨_, _, _, rfl, hi2⟩
  · obtain ⟨x, i2, h2, e2, hi2⟩ := bentE hc i1 h1 hi1
    simp only [if_true, e2, Option.bind_some]
    exact ⟨_, _, _, rfl, hi2⟩
theorem gradesE (n : Int) (p t : List Int) (b : List Bool) (hn : n ≤ 256) (x : Int) (hx : x ≤ 65536) : ∀ (m : Nat) (q : Int) (l : List Int) (i h : Int), 0 ≤ i → 0 ≤ q → q + m = x → (l.length : Int) = q → ∃ r i' h', Ev (fun k => spec_dGrades.l0 k x l q c i h n p t b) (r, i', h') ∧ 0 ≤ i' ∧ (r.length : Int) ≤ x := by
  intro m
  induction m with
  | zero =>
    intro q l i h h0 q0 hq hl
    refine ⟨l, i, h, Ev.step (f := fun _ => some (l, i, h)) (fun k => ?_) (Ev.now _), h0, by omega⟩
    simp only [spec_dGrades.l0]; rw [if_neg (by omega)]
  | succ m ih =>
    intro q l i h h0 q0 hq hl
    obtain ⟨y, i1, h1, e1, hi1⟩ := gradeE hc i h h0 n p t b hn
    obtain ⟨r, i2, h2, e2, hi2, hr⟩ := ih (q + 1) (l ++ [y]) i1 h1 hi1 (by omega) (by omega) (by simp; omega)
    refine ⟨r, i2, h2, Ev.step (fun k => ?_) e2, hi2, hr⟩
    simp only [spec_dGrades.l0]; rw [if_pos (by omega), e1, Option.bind_some, if_pos (by omega), w64 (by omega) (by omega)]
theorem viewE (n : Int) (p t : List Int) (b : List Bool) (g : gd (n, p, t, b) = true) (i h : Int) (h0 : 0 ≤ i) : ∃ v i' h', Ev (fun k => spec_dView.f k c i h n p t b) (v, i', h') ∧ 0 ≤ i' ∧ v.length ≤ 1048576 := by
  simp only [gd, Bool.and_eq_true, decide_eq_true_eq] at g
  have o := sysV_ok g.2
  have h1 := o.lo
  have sv := specViews n p t b
  rw [if_pos g.2] at sv
  have hl : (sortL (viewsL (markV n p t b) (n - 2).toNat [false, true])).length ≤ 128 := by
    rw [sortL_len]
    refine Nat.le_trans (viewsL_len _ _ _) ?_
    have g : 2 ^ (n - 2).toNat ≤ 2 ^ 7 := Nat.pow_le_pow_right (by decide) (by omega)
    exact g
  have he : ∀ a ∈ sortL (viewsL (markV n p t b) (n - 2).toNat [false, true]), a.length ≤ 16 := fun a ha => by
    have := viewsL_mem (sortL_mem.mp ha)
    simp at this
    omega
  generalize sortL (viewsL (markV n p t b) (n - 2).toNat [false, true]) = W at sv hl he
  have yes : ∀ i h, 0 ≤ i → ∃ v i' h', Ev (fun k => spec_dView.j0 k W true c i h n p t b) (v, i', h') ∧ 0 ≤ i' ∧ v.length ≤ 1048576 := by
    intro i h h0
    obtain ⟨x, i1, h1, e1, x0, x1, hi1⟩ := belowE hc i h 3 h0 (by omega)
    have x2 := x1 (by omega)
    obtain ⟨r, i2, h2, e2, hi2, hr⟩ := gradesE hc n p t b (by omega) x (by omega) x.toNat 0 [] i1 h1 hi1 (by omega) (by omega) rfl
    refine ⟨r, i2, h2, Ev.step (f := fun k => (spec_dGrades.f k c i1 h1 n p t b x).bind fun w => some (w.1, w.2.1, w.2.2)) (fun k => ?_) (Ev.bind e2 (Ev.now _)), hi2, by omega⟩
    simp only [spec_dView.j0, if_true, e1, Option.bind_some]
  have no : ∀ i h, 0 ≤ i → W.length ≠ 0 → ∃ v i' h', Ev (fun k => spec_dView.j0 k W false c i h n p t b) (v, i', h') ∧ 0 ≤ i' ∧ v.length ≤ 1048576 := by
    intro i h h0 hw
    obtain ⟨x, i1, h1, e1, x0, x1, hi1⟩ := belowE hc i h (W.length : Int) h0 (by omega)
    have x2 := x1 (by omega)
    obtain ⟨q, rfl⟩ := Int.eq_ofNat_of_zero_le x0
    have hq : q < W.length := by omega
    have er : rd_L3 W (q : Int) = W[q] := by unfold rd_L3; rw [Int.toNat_natCast, List.getD_eq_getElem?_getD, List.getElem?_eq_getElem hq]; rfl
    have h16 := he _ (List.getElem_mem hq)
    refine ⟨W[q], i1, h1, Ev.step (f := fun _ => some (W[q], i1, h1)) (fun k => ?_) (Ev.now _), hi1, by omega⟩
    simp only [spec_dView.j0, Bool.false_eq_true, if_false, e1, Option.bind_some]
    rw [if_pos x0, if_pos x2, er]
    unfold spec_l1Copy.f
    rw [Option.bind_some, if_pos (by simp; omega), Option.bind_some]
    simp
  unfold spec_dView.f
  by_cases c0 : W.length = 0
  · obtain ⟨v, i1, h1, e1, r1⟩ := yes i h h0
    refine ⟨v, i1, h1, Ev.bind sv ?_, r1⟩
    refine evCongr (fun k => if_pos (by omega)) e1
  · obtain ⟨x, i1, h1, e1, hi1⟩ := onceE hc i h 12 h0 (by omega)
    cases x
    · obtain ⟨v, i2, h2, e2, r2⟩ := no i1 h1 hi1 c0
      refine ⟨v, i2, h2, Ev.bind sv ?_, r2⟩
      refine evCongr (fun k => (if_neg (by omega)).trans (by rw [e1, Option.bind_some])) e2
    · obtain ⟨v, i2, h2, e2, r2⟩ := yes i1 h1 hi1
      refine ⟨v, i2, h2, Ev.bind sv ?_, r2⟩
      refine evCongr (fun k => (if_neg (by omega)).trans (by rw [e1, Option.bind_some])) e2
end
end Go.Proofs.Ytjjkagnbdfofbaa.Pure
end
