-- Printed by this session's own program (wip/tools/mkprint.py) out of the translation. Not trusted: Lean checks it.
import Derived.Test.YtcdmnofomoadlaaM1
import Derived.Test.YtcdmnofomoadlaaPf15
import Derived.Test.YtcdmnofomoadlaaPf37
import Derived.Test.YtcdmnofomoadlaaM8
import Derived.Test.YtcdmnofomoadlaaPf39
import Derived.Test.YtcdmnofomoadlaaPf40
/-! short words -/
namespace Go.Proofs.Ytcdmnofomoadlaa.P
open Go.RowKit Go.Proofs.YtcdmnofomoadlaaW.PrintWords Go.Proofs.YtcdmnofomoadlaaW.PrintLast Go.Proofs.YtcdmnofomoadlaaW.PrintMore
attribute [local go_sem] max2_int min2_int max_two min_two max_three min_three max_four min_four   -- for this text's walks alone
set_option linter.unusedVariables false
set_option linter.unusedSimpArgs false

/-! ### laws_FnReliable: function 8 -/
def laws_FnReliable.l0 : Nat → List Int → Int → Int → List Int → List Int → List Bool → Option (Bool)
 | 0, _, _, _, _, _, _ => none
 | k + 1, x4, x5, x586000, x586001, x586002, x586003 => if x5 < x586000 then (if x4.length < 17592186044416 then (laws_FnReliable.l0 k (x4 ++ [x5]) (wrap64 (x5 + 1)) x586000 x586001 x586002 x586003) else (none)) else ((impl_IsReliable.f k x586000 x586001 x586002 x586003).bind fun t605 => ((impl_IsView.f k x586000 x586001 x586002 x586003 x4).bind fun t606 => (if (t605 == t606) = true then ((impl_LevelSystem.f k 1).bind fun bt607 => ((impl_IsReliable.f k bt607.1 bt607.2.1 bt607.2.2.1 bt607.2.2.2).bind fun t617 => (some t617))) else (some false))))
def laws_FnReliable.f (k : Nat) (l0 : List Int) : Option (Bool) := (laws_big.f l0).bind fun t574 => (if t574 = true then (some true) else ((spec_DrawIsReliable.f k l0).bind fun bt575 => ((spec_IsSystem.f k bt575.1 bt575.2.1 bt575.2.2.1 bt575.2.2.2).bind fun t586 => (if t586 = true then (laws_FnReliable.l0 k (([] : List Int)) 1 bt575.1 bt575.2.1 bt575.2.2.1 bt575.2.2.2) else ((impl_IsReliable.f k bt575.1 bt575.2.1 bt575.2.2.1 bt575.2.2.2).bind fun t587 => (if t587 = true then (some false) else ((impl_LevelSystem.f k 1).bind fun bt588 => ((impl_IsReliable.f k bt588.1 bt588.2.1 bt588.2.2.1 bt588.2.2.2).bind fun t598 => (some t598)))))))))
def laws_FnReliable.T11 : Bool × List (List Nat × List Nat) := (true, [([], []), ([0], [0]), ([], []), ([], []), ([2, 3, 1], [2, 3]), ([1, 4], [1, 4]), ([5, 4], [5]), ([6, 6], [6]), ([7, 7, 6], [6, 7]), ([6, 8], [6, 8]), ([9, 8, 0, 1, 2, 3, 4, 5, 6, 7, 8, 9], [9])])
def laws_FnReliable.B11 : List Nat := [0, 1, 0, 0, 15, 31, 63, 127, 255, 511, 1023]
theorem laws_FnReliable.tab11 : rtab .any (opsOf Try.f8 11) = laws_FnReliable.T11 := by kernel_rfl
theorem laws_FnReliable.bits11 : waitsOk laws_FnReliable.T11.2 laws_FnReliable.B11 = true := by kernel_rfl
set_option maxHeartbeats 8000000 in
set_option maxRecDepth 100000 in
theorem laws_FnReliable.calls (k : Nat) (A0 : Option Addr) (c0 : Nat) (l0 : List Int) (r : Bool) (w : World) (hr0 : Kd.C (Kd.int .u8) w A0 l0.length l0) (hc0 : l0.length ≤ c0) (h : laws_FnReliable.f k l0 = some r) (hr_ : r = true) :
  Calls Try.prog 8 #[.slice A0 l0.length c0] w fun e w' => e = .returned (.bool r) ∧ Below w.heap.size w w' := by
 have hu27 := Try.underlying27
 have HR0 := sd_ hr0
 have HC0 := sd_ hc0
 clear hr0 hc0
 have HB := sd_ (Below.refl w.heap.size w)
 have H : ((laws_big.f l0).bind fun t574 => (if t574 = true then (some true) else ((spec_DrawIsReliable.f k l0).bind fun bt575 => ((spec_IsSystem.f k bt575.1 bt575.2.1 bt575.2.2.1 bt575.2.2.2).bind fun t586 => (if t586 = true then (laws_FnReliable.l0 k (([] : List Int)) 1 bt575.1 bt575.2.1 bt575.2.2.1 bt575.2.2.2) else ((impl_IsReliable.f k bt575.1 bt575.2.1 bt575.2.2.1 bt575.2.2.2).bind fun t587 => (if t587 = true then (some false) else ((impl_LevelSystem.f k 1).bind fun bt588 => ((impl_IsReliable.f k bt588.1 bt588.2.1 bt588.2.2.1 bt588.2.2.2).bind fun t598 => (some t598)))))))))) = some r := h
 clear h
 replace H := Option.bind_eq_some_iff.mp H
 obtain ⟨t574, A20, H⟩ := H
 try dsimp only at H
 have A2 := sd_ A20
 clear A20
 by_cases c3 : t574 = true
 ·subst c3
  have H1 : (some true) = some r := by rw [if_pos rfl] at H; exact H
  clear H
  have H := H1
  clear H1
  obtain rfl := Option.some.inj H
  go_enter Try.func8, Try.ntmps8
  go_wp2_with (first | ((with_reducible refine gate_callee (f := 13) rfl ?_); refine goesL_ (some 7) rfl rfl Try.func13 (by kernel_rfl) rfl #[.slice A0 l0.length c0] rfl la_ ?_; (with_reducible refine (laws_big.calls _ _ l0 true _ (kp_ HR0.out) HC0.out A2.out).mono ?_); rintro e w' ⟨rfl, ⟨nd, rfl⟩⟩; refine ⟨_, rfl, ?_⟩))
  go_ret
  exact ⟨an_, bw0_ HB.out⟩
 replace c3 := Bool.eq_false_iff.mpr c3
 subst c3
 have H1 : ((spec_DrawIsReliable.f k l0).bind fun bt575 => ((spec_IsSystem.f k bt575.1 bt575.2.1 bt575.2.2.1 bt575.2.2.2).bind fun t586 => (if t586 = true then (laws_FnReliable.l0 k (([] : List Int)) 1 bt575.1 bt575.2.1 bt575.2.2.1 bt575.2.2.2) else ((impl_IsReliable.f k bt575.1 bt575.2.1 bt575.2.2.1 bt575.2.2.2).bind fun t587 => (if t587 = true then (some false) else ((impl_LevelSystem.f k 1).bind fun bt588 => ((impl_IsReliable.f k bt588.1 bt588.2.1 bt588.2.2.1 bt588.2.2.2).bind fun t598 => (some t598)))))))) = some r := by rw [if_neg (show ¬ (false = true) by decide)] at H; exact H
 clear H
 have H := H1
 clear H1
 replace H := Option.bind_eq_some_iff.mp H
 obtain ⟨⟨t575, t576, t579, t582⟩, A40, H⟩ := H
 try dsimp only at H
 have A4 := sd_ A40
 clear A40
 replace H := Option.bind_eq_some_iff.mp H
 obtain ⟨t586, A50, H⟩ := H
 try dsimp only at H
 have A5 := sd_ A50
 clear A50
 by_cases c6 : t586 = true
 ·subst c6
  have H1 : (laws_FnReliable.l0 k (([] : List Int)) 1 t575 t576 t579 t582) = some r := by rw [if_pos rfl] at H; exact H
  clear H
  have H := H1
  clear H1
  obtain ⟨y599, hy599⟩ : ∃ y_ : List Int, y_ = (([] : List Int)) := ⟨_, rfl⟩
  replace H : (laws_FnReliable.l0 k y599 1 t575 t576 t579 t582) = some r := by first | (rw [hy599]; with_reducible exact H) | (have H2_ := (Option.bind_some _ _).symm.trans H; rw [hy599]; with_reducible exact H2_) | (have H2_ := (Option.bind_some _ _).symm.trans H; with_reducible exact H2_) | with_reducible exact H | (rw [hy599]; exact H) | exact H
  have Ny599 := sd_ hy599
  clear hy599
  have H' := sd_ H
  clear H
  go_enter Try.func8, Try.ntmps8
  go_wp2_with (first | ((with_reducible refine gate_callee (f := 13) rfl ?_); refine goesL_ (some 7) rfl rfl Try.func13 (by kernel_rfl) rfl #[.slice A0 l0.length c0] rfl la_ ?_; (with_reducible refine (laws_big.calls _ _ l0 false _ (kp_ HR0.out) HC0.out A2.out).mono ?_); rintro e w' ⟨rfl, ⟨nd, rfl⟩⟩; refine ⟨_, rfl, ?_⟩) | ((with_reducible refine gate_callee (f := 37) rfl ?_); refine goesL_ (some 9) rfl rfl Try.func37 (by kernel_rfl) rfl #[.slice A0 l0.length c0] rfl la_ ?_; (with_reducible refine (spec_DrawIsReliable.calls k _ _ l0 t575 t576 t579 t582 _ (kp_ HR0.out) HC0.out A4.out).mono ?_); rintro e w7 ⟨v577, v580, v583, rfl, ho0, ho1, ho2, hb⟩; refine ⟨_, rfl, ?_⟩; have HO578 := sd_ (Kd.R_lower ho0 (below_size (bw0_ HB.out))); have HO581 := sd_ (Kd.R_lower ho1 (below_size (bw0_ HB.out))); have HO584 := sd_ (Kd.R_lower ho2 (below_size (bw0_ HB.out))); replace HB := sd_ (below_step (bw0_ HB.out) hb); (try clear ho0); (try clear ho1); (try clear ho2)) | ((with_reducible refine gate_dst (N := 3) rfl ?_); refine bx_ (N := 3) (cs := #[.int .i64 0, .slice none 0 0, .slice none 0 0, .slice none 0 0]) (t := 27) ?_; intro gb585 hg w8 hbox hb; replace HO578 := sd_ (Kd.R_below (ro_ HO578.out) hb); replace HO581 := sd_ (Kd.R_below (ro_ HO581.out) hb); replace HO584 := sd_ (Kd.R_below (ro_ HO584.out) hb); have BK585 := sd_ (hbox); have GW585 := sd_ (gs_ hg (bw0_ HB.out)); have GE585 := sd_ (gs_ hg (bw0_ HB.out)); replace HB := sd_ (below_step (bw0_ HB.out) hb); clear hb hbox hg; obtain ⟨hcz9_0, hcz9_1, hcz9_2, hcz9_3, hfz9_0, hfz9_1, hfz9_2, hfz9_3⟩ := bf4_ BK585.out; obtain ⟨Ao10, co10, eo10⟩ := Kd.R_slice HO578.out; subst eo10; obtain ⟨Ao11, co11, eo11⟩ := Kd.R_slice HO581.out; subst eo11; obtain ⟨Ao12, co12, eo12⟩ := Kd.R_slice HO584.out; subst eo12) | ((with_reducible refine gate_callee (f := 38) rfl ?_); refine goesL_ (some 11) rfl rfl Try.func38 (by kernel_rfl) rfl #[.agg #[.int .i64 t575, .slice Ao10 t576.length co10, .slice Ao11 t579.length co11, .slice Ao12 t582.length co12]] rfl la_ ?_; (with_reducible refine (spec_IsSystem.calls k t575 _ _ t576 _ _ t579 _ _ t582 true _ ?side1 ?side2 ?side3 ?side4 ?side5 ?side6 A5.out).mono ?_); (case side1 => refine (Kd.R_reads' (e := 3) (base := w.heap.size) (ok := fun k_ => some k_ ≠ (.slice Ao11 t579.length co11 : Value).ownBlock) (A := Ao10) (n := t576.length) (c := co10) ?_).2.2; exact (by (with_reducible repeat (first | apply Kd.R_alloc | apply Kd.R_drewN | apply Kd.R_drew)); exact (rf_ HO578.out BK585.out))); (case side2 => exact (Kd.R_reads' HO578.out).2.1); (case side3 => refine (Kd.R_reads' (e := 3) (base := w.heap.size) (ok := fun k_ => some k_ ≠ (.slice Ao10 t576.length co10 : Value).ownBlock) (A := Ao11) (n := t579.length) (c := co11) ?_).2.2; exact (by (with_reducible repeat (first | apply Kd.R_alloc | apply Kd.R_drewN | apply Kd.R_drew)); exact (rf_ HO581.out BK585.out))); (case side4 => exact (Kd.R_reads' HO581.out).2.1); (case side5 => refine (Kd.R_reads' (e := 4) (base := w.heap.size) (ok := fun k_ => True) (A := Ao12) (n := t582.length) (c := co12) ?_).2.2; exact (by (with_reducible repeat (first | apply Kd.R_alloc | apply Kd.R_drewN | apply Kd.R_drew)); exact (rf_ HO584.out BK585.out))); (case side6 => exact (Kd.R_reads' HO584.out).2.1); rintro e w13 ⟨rfl, hb⟩; refine ⟨_, rfl, ?_⟩; replace HO578 := sd_ (Kd.R_below (by (with_reducible repeat (first | apply Kd.R_alloc | apply Kd.R_drewN | apply Kd.R_drew)); exact (rf_ HO578.out BK585.out)) hb); replace HO581 := sd_ (Kd.R_below (by (with_reducible repeat (first | apply Kd.R_alloc | apply Kd.R_drewN | apply Kd.R_drew)); exact (rf_ HO581.out BK585.out)) hb); replace HO584 := sd_ (Kd.R_below (by (with_reducible repeat (first | apply Kd.R_alloc | apply Kd.R_drewN | apply Kd.R_drew)); exact (rf_ HO584.out BK585.out)) hb); replace BK585 := sd_ (blk_below (g := gb585) (o := .cells #[.int .i64 t575, .slice Ao10 t576.length co10, .slice Ao11 t579.length co11, .slice Ao12 t582.length co12] 27 (0, 0)) (by (with_reducible repeat (first | refine blk_drewN ?_ _ | refine blk_drew ?_ | refine blk_alloc ?_ _)); refine blk_put (cs := #[.int .i64 t575, .slice Ao10 t576.length co10, .slice Ao11 t579.length co11, .slice none 0 0]) ?_ 3 _ rfl; (with_reducible repeat (first | refine blk_drewN ?_ _ | refine blk_drew ?_ | refine blk_alloc ?_ _)); refine blk_put (cs := #[.int .i64 t575, .slice Ao10 t576.length co10, .slice none 0 0, .slice none 0 0]) ?_ 2 _ rfl; (with_reducible repeat (first | refine blk_drewN ?_ _ | refine blk_drew ?_ | refine blk_alloc ?_ _)); refine blk_put (cs := #[.int .i64 t575, .slice none 0 0, .slice none 0 0, .slice none 0 0]) ?_ 1 _ rfl; (with_reducible repeat (first | refine blk_drewN ?_ _ | refine blk_drew ?_ | refine blk_alloc ?_ _)); refine blk_put (cs := #[.int .i64 0, .slice none 0 0, .slice none 0 0, .slice none 0 0]) ?_ 0 _ rfl; exact bz_ BK585.out) hb); replace HB := sd_ (below_step (bw1_ HB.out GE585.out) hb); (try clear hb)) | ((with_reducible refine gate_dst (N := 20) rfl ?_); refine Kd.R_lit (Kd.int .i64) _ 3 ?hg (N := 20) ?hd (xs := ([] : List Int)) (inner := []) (ok := fun _ => True) (okp := fun _ => True) ?hr ?hp (fun _ hk => hk) trivial (Below.refl _ _) (Nat.le_refl _) (by simp) ?_; (case hd => rfl); (case hg => rfl); (case hr => first | (go_simp; done) | (go_simp; rfl)); (case hp => exact (Reps.none _ _)); intro v600 w14 ho15 hb hg_ hnew_; clear hg_ hnew_; (first | rw [← Ny599.out] at ho15 | (simp only [Int.reduceToNat] at ho15; rw [← Ny599.out] at ho15)); replace HO584 := sd_ (Kd.R_below (ro_ HO584.out) hb); have HO601 := sd_ (Kd.R_lower (Kd.R_new' (Kd.R_new' ho15 (Kd.R_lt (ro_ HO578.out))) (Kd.R_lt (ro_ HO581.out))) (below_size (bw1_ HB.out GE585.out))); replace HO578 := sd_ (Kd.R_elder' (ro_ HO578.out) (Kd.R_base ho15) hb); replace HO581 := sd_ (Kd.R_elder' (ro_ HO581.out) (Kd.R_base ho15) hb); replace BK585 := sd_ (bb_ BK585.out hb); replace HB := sd_ (below_step (bw1_ HB.out GE585.out) hb); clear hb ho15))
  go_loopg [4, 5] k (fun kq v4 v5 w' => ∃ (x4_1 : List Int) (x5_1 : Int), v5 = .int .i64 x5_1 ∧ Aside0 (laws_FnReliable.l0 kq x4_1 x5_1 t575 t576 t579 t582 = some r) ∧ Aside0 (kq ≤ k) ∧ Aside0 (Kd.R (Kd.int .i64) 3 w' w.heap.size (fun k_ => some k_ ≠ ((.slice Ao10 t576.length co10) : Value).ownBlock ∧ some k_ ≠ ((.slice Ao11 t579.length co11) : Value).ownBlock) v4 x4_1) ∧ Aside0 (Kd.R (Kd.int .i64) 3 w' w.heap.size (fun k_ => some k_ ≠ (v4 : Value).ownBlock ∧ some k_ ≠ ((.slice Ao11 t579.length co11) : Value).ownBlock) (.slice Ao10 t576.length co10) t576) ∧ Aside0 (Kd.R (Kd.int .i64) 3 w' w.heap.size (fun k_ => some k_ ≠ (v4 : Value).ownBlock ∧ some k_ ≠ ((.slice Ao10 t576.length co10) : Value).ownBlock) (.slice Ao11 t579.length co11) t579) ∧ Aside0 (Kd.R Kd.bool 4 w' w.heap.size (fun _ => True) (.slice Ao12 t582.length co12) t582) ∧ Aside0 (w'.heap[gb585]? = some (.cells #[.int .i64 t575, (.slice Ao10 t576.length co10), (.slice Ao11 t579.length co11), (.slice Ao12 t582.length co12)] 27 (0, 0))) ∧ Aside0 (Below w.heap.size w w'))
  case atStart => exact ⟨(y599), (1), sm_, H', ⟨Nat.le_refl _⟩, ⟨by (with_reducible repeat (first | apply Kd.R_alloc | apply Kd.R_drewN | apply Kd.R_drew)); exact Kd.R_mono HO601.out (fun _ hk => ⟨hk.1.2, hk.2⟩)⟩, ⟨by (with_reducible repeat (first | apply Kd.R_alloc | apply Kd.R_drewN | apply Kd.R_drew)); exact Kd.R_mono HO578.out (fun _ hk => ⟨hk.2, hk.1⟩)⟩, ⟨by (with_reducible repeat (first | apply Kd.R_alloc | apply Kd.R_drewN | apply Kd.R_drew)); exact Kd.R_mono HO581.out (fun _ hk => ⟨hk.2, hk.1⟩)⟩, ⟨by (with_reducible repeat (first | apply Kd.R_alloc | apply Kd.R_drewN | apply Kd.R_drew)); exact HO584.out⟩, ⟨by exact bz_ BK585.out⟩, ⟨bw1_ HB.out GE585.out⟩⟩
  case round =>
   clear H'
   try clear c1
   try clear p2
   try clear c3
   try clear c6
   try clear c8
   try clear c13
   try clear hcz9_0
   try clear hcz9_1
   try clear hcz9_2
   try clear hcz9_3
   try clear hfz9_0
   try clear hfz9_1
   try clear hfz9_2
   try clear hfz9_3
   obtain ⟨x4_1, x5_1, rfl, HA, HK1, HO_4, HO_586001, HO_586002, HO_586003, BK585, HB⟩ := hrel
   cases gk with
   | zero => exact absurd HA.out (by simp [laws_FnReliable.l0])
   | succ k1 =>
    have H := HA.out
    clear HA
    simp only [laws_FnReliable.l0] at H
    by_cases c16 : x5_1 < t575
    ·rw [if_pos c16] at H
     have c16b0 : decide (x5_1 < t575) = true := decide_eq_true c16
     clear c16
     by_cases c17 : x4_1.length < 17592186044416
     ·rw [if_pos c17] at H
      have LMc17 := sd_ c17
      clear c17
      obtain ⟨y602, hy602⟩ : ∃ y_ : List Int, y_ = (x4_1 ++ [x5_1]) := ⟨_, rfl⟩
      replace H : (laws_FnReliable.l0 k1 y602 (wrap64 (x5_1 + 1)) t575 t576 t579 t582) = some r := by first | (rw [hy602]; with_reducible exact H) | (have H2_ := (Option.bind_some _ _).symm.trans H; rw [hy602]; with_reducible exact H2_) | (have H2_ := (Option.bind_some _ _).symm.trans H; with_reducible exact H2_) | with_reducible exact H | (rw [hy602]; exact H) | exact H
      have Ny602 := sd_ hy602
      clear hy602
      have H' := sd_ H
      clear H
      obtain ⟨hcz18_0, hcz18_1, hcz18_2, hcz18_3, hfz18_0, hfz18_1, hfz18_2, hfz18_3⟩ := bf4_ BK585.out
      go_wp2_with (first | ((with_reducible refine gate_builtin (b := .append) (xs := #[.tmp 27, .tmp 29]) rfl ?_); at_builtin; refine Kd.R_append (Kd.int .i64) (w0 := w) w.heap.size rfl (.tmp 27) (.tmp 29) 24 3 (.int .i64 0) 8 rfl Try.underlying24 info3 rfl (by decide) (by omega) u4 x4_1 x5_1 [.int .i64 x5_1] (fun k_ => some k_ ≠ (.slice Ao10 t576.length co10 : Value).ownBlock ∧ some k_ ≠ (.slice Ao11 t579.length co11 : Value).ownBlock) (fun _ => False) rfl rfl ?aP (fun _ hk => hk.elim) ?aF ?aO ?aB ?aS ?aL ?_; (case aP => exact rfl); (case aB => exact (bw1_ HB.out GE585.out)); (case aF => exact (fun k_ hk => ⟨Kd.fresh' (Kd.R_lt (ro_ HO_586001.out)) k_ hk, Kd.fresh' (Kd.R_lt (ro_ HO_586002.out)) k_ hk⟩)); (case aO => exact (ro_ HO_4.out)); (case aS => exact (below_size (bw1_ HB.out GE585.out))); (case aL => have := LMc17.out; omega); intro v603 w19 ho hb hg hat; rw [← Ny602.out] at ho; have n0_ := sd_ (Kd.R_after (ok := (fun k_ => some k_ ≠ (.slice Ao11 t579.length co11 : Value).ownBlock)) (by (with_reducible repeat (first | apply Kd.R_alloc | apply Kd.R_drewN | apply Kd.R_drew)); exact Kd.R_mono HO_586001.out (fun _ hk => ⟨hk.2, hk.1⟩)) hg hat); have n1_ := sd_ (Kd.R_after (ok := (fun k_ => some k_ ≠ (.slice Ao10 t576.length co10 : Value).ownBlock)) (by (with_reducible repeat (first | apply Kd.R_alloc | apply Kd.R_drewN | apply Kd.R_drew)); exact Kd.R_mono HO_586002.out (fun _ hk => ⟨hk.2, hk.1⟩)) hg hat); have n2_ := sd_ (Kd.R_over' (ro_ HO_586003.out) (Kd.R_typed (ro_ HO_4.out)) (by decide) hg); have n3_ := sd_ (blk_grown (g := gb585) (o := .cells #[.int .i64 t575, .slice Ao10 t576.length co10, .slice Ao11 t579.length co11, .slice Ao12 t582.length co12] 27 (0, 0)) (bz_ BK585.out) hg (Kd.R_ne HO_4.out BK585.out (by decide))); have n4_ := sd_ (hb); have n5_ := sd_ (ho); clear HO_586001; clear HO_586002; clear HO_586003; clear BK585; clear HB; clear HO_4; have HO_586001 := n0_; have HO_586002 := n1_; have HO_586003 := n2_; have BK585 := n3_; have HB := n4_; have HO604 := n5_; clear n0_ n1_ n2_ n3_ n4_ n5_; clear ho hb hg hat))
      go_roundg k1
      case measure => have := HK1.out; omega
      case rel => exact ⟨(y602), (wrap64 (x5_1 + 1)), sm_, H', ⟨by have := HK1.out; omega⟩, ⟨by (with_reducible repeat (first | apply Kd.R_alloc | apply Kd.R_drewN | apply Kd.R_drew)); exact HO604.out⟩, ⟨by (with_reducible repeat (first | apply Kd.R_alloc | apply Kd.R_drewN | apply Kd.R_drew)); exact Kd.R_mono HO_586001.out (fun _ hk => ⟨hk.2, hk.1⟩)⟩, ⟨by (with_reducible repeat (first | apply Kd.R_alloc | apply Kd.R_drewN | apply Kd.R_drew)); exact Kd.R_mono HO_586002.out (fun _ hk => ⟨hk.2, hk.1⟩)⟩, ⟨by (with_reducible repeat (first | apply Kd.R_alloc | apply Kd.R_drewN | apply Kd.R_drew)); exact HO_586003.out⟩, ⟨by exact bz_ BK585.out⟩, ⟨bw1_ HB.out GE585.out⟩⟩
     rw [if_neg c17] at H
     exact absurd H (by simp)
    rw [if_neg c16] at H
    have c16b0 : decide (x5_1 < t575) = false := decide_eq_false c16
    clear c16
    replace H := Option.bind_eq_some_iff.mp H
    obtain ⟨t605, A200, H⟩ := H
    try dsimp only at H
    have A20 := sd_ A200
    clear A200
    replace H := Option.bind_eq_some_iff.mp H
    obtain ⟨t606, A210, H⟩ := H
    try dsimp only at H
    have A21 := sd_ A210
    clear A210
    by_cases c22 : (t605 == t606) = true
    ·rw [if_pos c22] at H
     have c22b0 : (t605 == t606) = true := c22
     (try (have c22b1 : decide (t605 = t606) = true := by simpa using c22))
     (try (have c22b2 : (t605 == t606) = true := by simpa using c22))
     clear c22
     replace H := Option.bind_eq_some_iff.mp H
     obtain ⟨⟨t607, t608, t611, t614⟩, A230, H⟩ := H
     try dsimp only at H
     have A23 := sd_ A230
     clear A230
     replace H := Option.bind_eq_some_iff.mp H
     obtain ⟨t617, A240, H⟩ := H
     try dsimp only at H
     have A24 := sd_ A240
     clear A240
     obtain rfl := Option.some.inj H
     obtain ⟨hcz25_0, hcz25_1, hcz25_2, hcz25_3, hfz25_0, hfz25_1, hfz25_2, hfz25_3⟩ := bf4_ BK585.out
     try go_wp2
     replace HO_4 := sd_ (Kd.R_drew HO_4.out)
     replace HO_586001 := sd_ (Kd.R_drew HO_586001.out)
     replace HO_586002 := sd_ (Kd.R_drew HO_586002.out)
     replace HO_586003 := sd_ (Kd.R_drew HO_586003.out)
     replace BK585 := sd_ (blk_drew BK585.out)
     replace HB := sd_ (below_drew1 HB.out)
     refine start_ (n := 11) (S := fun w' => w'.cell? ⟨gb585, 0, none⟩ = some (.int .i64 t575) ∧ w'.cell? ⟨gb585, 1, none⟩ = some (.slice Ao10 t576.length co10) ∧ w'.cell? ⟨gb585, 2, none⟩ = some (.slice Ao11 t579.length co11) ∧ w'.cell? ⟨gb585, 3, none⟩ = some (.slice Ao12 t582.length co12)) (ds := []) #[false, false, false, false, false, false, false, false, false, false, false] (by kernel_rfl) rfl rfl ⟨(blk_cell BK585.out 0).trans rfl, (blk_cell BK585.out 1).trans rfl, (blk_cell BK585.out 2).trans rfl, (blk_cell BK585.out 3).trans rfl⟩ (fun hHeld => ?_); refine with_tabW laws_FnReliable.tab11 laws_FnReliable.bits11 (fun HT_ HW_ => ?_)
     generalize wr.drew = w26 at HO_4 HO_586001 HO_586002 HO_586003 BK585 HB hHeld ⊢
     refine pure_ (i := 3) (N := some 34) (v := ?_) (a' := ?_) #[false, false, false, true, false, false, false, false, false, false, false] rfl rfl (any_of HT_.out (by kernel_rfl)) (fun _ _ _ h => h) (Or.inl ⟨by rfl, ?_⟩) ?_ ?_
     rotate_left
     ·intro w'
      go_simp
      with_reducible rfl
     rotate_left
     ·simp only [Act.put, List.setIfInBounds_toArray, List.set_cons_zero, List.set_cons_succ, i64_w, i32_w]
      rfl
     refine take_ (i := 0) (N := some 31) (v := ?_) (a' := ?_) #[true, false, false, true, false, false, false, false, false, false, false] rfl rfl (take_ofW HT_.out HW_.out (by kernel_rfl)) (fun _ _ _ h => h) (Or.inl ⟨by rfl, ?_⟩) hHeld ?_ ?_
     rotate_left
     ·rintro w' ⟨s0, s1, s2, s3⟩
      go_simp
      with_reducible rfl
     rotate_left
     ·simp only [Act.put, List.setIfInBounds_toArray, List.set_cons_zero, List.set_cons_succ, i64_w, i32_w]
      rfl
     refine take_ (i := 2) (N := some 33) (v := ?_) (a' := ?_) #[true, false, true, true, false, false, false, false, false, false, false] rfl rfl (take_ofW HT_.out HW_.out (by kernel_rfl)) (fun _ _ _ h => h) (Or.inl ⟨by rfl, ?_⟩) hHeld ?_ ?_
     rotate_left
     ·rintro w' ⟨s0, s1, s2, s3⟩
      go_simp
      with_reducible rfl
     rotate_left
     ·simp only [Act.put, List.setIfInBounds_toArray, List.set_cons_zero, List.set_cons_succ, i64_w, i32_w]
      rfl
     refine one_ (i := 1) (N := some 32) #[true, true, true, true, false, false, false, false, false, false, false] rfl rfl (one_of HT_.out (by kernel_rfl)) (by decide) (fun K hK => ?_)
     refine goes_ Try.func39 (by kernel_rfl) rfl #[.agg #[.int .i64 t575, .slice Ao10 t576.length co10, .slice Ao11 t579.length co11, .slice Ao12 t582.length co12]] (by rfl) rfl rfl la_ ?_
     with_reducible refine (impl_IsReliable.calls k1 t575 _ _ t576 _ _ t579 _ _ t582 t605 _ ?side1 ?side2 ?side3 ?side4 ?side5 ?side6 A20.out).mono ?_
     (case side1 => exact kp_ (Kd.R_reads' HO_586001.out).2.2)
     (case side2 => exact (Kd.R_reads' HO_586001.out).2.1)
     (case side3 => exact kp_ (Kd.R_reads' HO_586002.out).2.2)
     (case side4 => exact (Kd.R_reads' HO_586002.out).2.1)
     (case side5 => exact kp_ (Kd.R_reads' HO_586003.out).2.2)
     (case side6 => exact (Kd.R_reads' HO_586003.out).2.1)
     rintro e w27 ⟨rfl, hb⟩
     refine ⟨_, rfl, ?_⟩
     replace HO_4 := sd_ (Kd.R_below (ro_ HO_4.out) hb)
     replace HO_586001 := sd_ (Kd.R_below (ro_ HO_586001.out) hb)
     replace HO_586002 := sd_ (Kd.R_below (ro_ HO_586002.out) hb)
     replace HO_586003 := sd_ (Kd.R_below (ro_ HO_586003.out) hb)
     replace BK585 := sd_ (bb_ BK585.out hb)
     replace HB := sd_ (below_step (bw1_ HB.out GE585.out) hb)
     (try clear hb)
     (try clear hb2)
     (try clear hk)
     (try clear hi)
     obtain ⟨Ao28, co28, eo28⟩ := Kd.R_slice HO_4.out
     (first | subst eo28 | (injection eo28 with f1_ f2_ f3_; have f4_ := f1_.symm; have f5_ := f3_.symm; clear f1_ f2_ f3_; subst f4_; subst f5_))
     refine hK.out _ _ ⟨(blk_cell BK585.out 0).trans rfl, (blk_cell BK585.out 1).trans rfl, (blk_cell BK585.out 2).trans rfl, (blk_cell BK585.out 3).trans rfl⟩ (fun hHeld => ?_)
     clear hK K
     refine norm_ (a' := ?_) ?_ ?_
     rotate_left
     ·show Act.put _ (some 32) _ = _
      simp only [Act.put, List.setIfInBounds_toArray, List.set_cons_zero, List.set_cons_succ, i64_w, i32_w]
      rfl
     refine one_ (i := 4) (N := some 35) #[true, true, true, true, true, false, false, false, false, false, false] rfl rfl (one_of HT_.out (by kernel_rfl)) (by decide) (fun K hK => ?_)
     refine goes_ Try.func40 (by kernel_rfl) rfl #[.agg #[.int .i64 t575, .slice Ao10 t576.length co10, .slice Ao11 t579.length co11, .slice Ao12 t582.length co12], .slice Ao28 x4_1.length co28] (by rfl) rfl rfl la_ ?_
     with_reducible refine (impl_IsView.calls k1 t575 _ _ t576 _ _ t579 _ _ t582 _ _ x4_1 t606 _ ?side1 ?side2 ?side3 ?side4 ?side5 ?side6 ?side7 ?side8 A21.out).mono ?_
     (case side1 => exact kp_ (Kd.R_reads' HO_586001.out).2.2)
     (case side2 => exact (Kd.R_reads' HO_586001.out).2.1)
     (case side3 => exact kp_ (Kd.R_reads' HO_586002.out).2.2)
     (case side4 => exact (Kd.R_reads' HO_586002.out).2.1)
     (case side5 => exact kp_ (Kd.R_reads' HO_586003.out).2.2)
     (case side6 => exact (Kd.R_reads' HO_586003.out).2.1)
     (case side7 => exact kp_ (Kd.R_reads' HO_4.out).2.2)
     (case side8 => exact (Kd.R_reads' HO_4.out).2.1)
     rintro e w29 ⟨rfl, hb⟩
     refine ⟨_, rfl, ?_⟩
     replace HO_4 := sd_ (Kd.R_below (ro_ HO_4.out) hb)
     replace HO_586001 := sd_ (Kd.R_below (ro_ HO_586001.out) hb)
     replace HO_586002 := sd_ (Kd.R_below (ro_ HO_586002.out) hb)
     replace HO_586003 := sd_ (Kd.R_below (ro_ HO_586003.out) hb)
     replace BK585 := sd_ (bb_ BK585.out hb)
     replace HB := sd_ (below_step (bw1_ HB.out GE585.out) hb)
     (try clear hb)
     (try clear hb2)
     (try clear hk)
     (try clear hi)
     refine hK.out _ _ ⟨(blk_cell BK585.out 0).trans rfl, (blk_cell BK585.out 1).trans rfl, (blk_cell BK585.out 2).trans rfl, (blk_cell BK585.out 3).trans rfl⟩ (fun hHeld => ?_)
     clear hK K
     refine norm_ (a' := ?_) ?_ ?_
     rotate_left
     ·show Act.put _ (some 35) _ = _
      simp only [Act.put, List.setIfInBounds_toArray, List.set_cons_zero, List.set_cons_succ, i64_w, i32_w]
      rfl
     refine pure_ (i := 5) (N := some 36) (v := ?_) (a' := ?_) #[true, true, true, true, true, true, false, false, false, false, false] rfl rfl (any_of HT_.out (by kernel_rfl)) (fun _ _ _ h => h) (Or.inl ⟨by rfl, ?_⟩) ?_ ?_
     rotate_left
     ·intro w'
      go_simp
      with_reducible rfl
     rotate_left
     ·simp only [Act.put, List.setIfInBounds_toArray, List.set_cons_zero, List.set_cons_succ, i64_w, i32_w]
      rfl
     refine pure_ (i := 6) (N := some 37) (v := ?_) (a' := ?_) #[true, true, true, true, true, true, true, false, false, false, false] rfl rfl (any_of HT_.out (by kernel_rfl)) (fun _ _ _ h => h) (Or.inl ⟨by rfl, ?_⟩) ?_ ?_
     rotate_left
     ·intro w'
      go_simp
      with_reducible rfl
     rotate_left
     ·simp only [Act.put, List.setIfInBounds_toArray, List.set_cons_zero, List.set_cons_succ, i64_w, i32_w]
      rfl
     refine one_ (i := 7) (N := some 38) #[true, true, true, true, true, true, true, true, false, false, false] rfl rfl (one_of HT_.out (by kernel_rfl)) (by decide) (fun K hK => ?_)
     refine goes_ Try.func15 (by kernel_rfl) rfl #[.int .i64 1] (by rfl) rfl rfl la_ ?_
     with_reducible refine (impl_LevelSystem.calls k1 1 t607 t608 t611 t614 _ A23.out).mono ?_
     rintro e w30 ⟨v609, v612, v615, rfl, ho0, ho1, ho2, hb⟩
     refine ⟨_, rfl, ?_⟩
     have HO610 := sd_ (Kd.R_lower (Kd.R_new' (Kd.R_new' (Kd.R_new' ho0 (Kd.R_lt (ro_ HO_4.out))) (Kd.R_lt (ro_ HO_586001.out))) (Kd.R_lt (ro_ HO_586002.out))) (below_size (bw1_ HB.out GE585.out)))
     have HO613 := sd_ (Kd.R_lower (Kd.R_new' (Kd.R_new' (Kd.R_new' ho1 (Kd.R_lt (ro_ HO_4.out))) (Kd.R_lt (ro_ HO_586001.out))) (Kd.R_lt (ro_ HO_586002.out))) (below_size (bw1_ HB.out GE585.out)))
     replace HO_4 := sd_ (Kd.R_mono (Kd.R_told (Kd.R_told (Kd.R_old (ro_ HO_4.out) hb) (Kd.R_base ho0)) (Kd.R_base ho1)) (fun _ h_ => h_.1))
     replace HO_586001 := sd_ (Kd.R_mono (Kd.R_told (Kd.R_told (Kd.R_old (ro_ HO_586001.out) hb) (Kd.R_base ho0)) (Kd.R_base ho1)) (fun _ h_ => h_.1))
     replace HO_586002 := sd_ (Kd.R_mono (Kd.R_told (Kd.R_told (Kd.R_old (ro_ HO_586002.out) hb) (Kd.R_base ho0)) (Kd.R_base ho1)) (fun _ h_ => h_.1))
     have HO616 := sd_ (Kd.R_lower (Kd.R_new' ho2 (Kd.R_lt (ro_ HO_586003.out))) (below_size (bw1_ HB.out GE585.out)))
     replace HO_586003 := sd_ (Kd.R_elder' (ro_ HO_586003.out) (Kd.R_base ho2) hb)
     replace BK585 := sd_ (bb_ BK585.out hb)
     replace HB := sd_ (below_step (bw1_ HB.out GE585.out) hb)
     (try clear hb)
     (try clear hb2)
     (try clear hk)
     (try clear hi)
     (try clear ho0)
     (try clear ho1)
     (try clear ho2)
     obtain ⟨Ao31, co31, eo31⟩ := Kd.R_slice HO610.out
     (first | subst eo31 | (injection eo31 with f1_ f2_ f3_; have f4_ := f1_.symm; have f5_ := f3_.symm; clear f1_ f2_ f3_; subst f4_; subst f5_))
     obtain ⟨Ao32, co32, eo32⟩ := Kd.R_slice HO613.out
     (first | subst eo32 | (injection eo32 with f1_ f2_ f3_; have f4_ := f1_.symm; have f5_ := f3_.symm; clear f1_ f2_ f3_; subst f4_; subst f5_))
     obtain ⟨Ao33, co33, eo33⟩ := Kd.R_slice HO616.out
     (first | subst eo33 | (injection eo33 with f1_ f2_ f3_; have f4_ := f1_.symm; have f5_ := f3_.symm; clear f1_ f2_ f3_; subst f4_; subst f5_))
     refine hK.out _ _ ⟨(blk_cell BK585.out 0).trans rfl, (blk_cell BK585.out 1).trans rfl, (blk_cell BK585.out 2).trans rfl, (blk_cell BK585.out 3).trans rfl⟩ (fun hHeld => ?_)
     clear hK K
     refine norm_ (a' := ?_) ?_ ?_
     rotate_left
     ·show Act.put _ (some 38) _ = _
      simp only [Act.put, List.setIfInBounds_toArray, List.set_cons_zero, List.set_cons_succ, i64_w, i32_w]
      rfl
     refine one_ (i := 8) (N := some 39) #[true, true, true, true, true, true, true, true, true, false, false] rfl rfl (one_of HT_.out (by kernel_rfl)) (by decide) (fun K hK => ?_)
     refine goes_ Try.func39 (by kernel_rfl) rfl #[.agg #[.int .i64 t607, .slice Ao31 t608.length co31, .slice Ao32 t611.length co32, .slice Ao33 t614.length co33]] (by rfl) rfl rfl la_ ?_
     with_reducible refine (impl_IsReliable.calls k1 t607 _ _ t608 _ _ t611 _ _ t614 t617 _ ?side1 ?side2 ?side3 ?side4 ?side5 ?side6 A24.out).mono ?_
     (case side1 => exact kp_ (Kd.R_reads' HO610.out).2.2)
     (case side2 => exact (Kd.R_reads' HO610.out).2.1)
     (case side3 => exact kp_ (Kd.R_reads' HO613.out).2.2)
     (case side4 => exact (Kd.R_reads' HO613.out).2.1)
     (case side5 => exact kp_ (Kd.R_reads' HO616.out).2.2)
     (case side6 => exact (Kd.R_reads' HO616.out).2.1)
     rintro e w34 ⟨rfl, hb⟩
     refine ⟨_, rfl, ?_⟩
     replace HO_4 := sd_ (Kd.R_below (ro_ HO_4.out) hb)
     replace HO_586001 := sd_ (Kd.R_below (ro_ HO_586001.out) hb)
     replace HO_586002 := sd_ (Kd.R_below (ro_ HO_586002.out) hb)
     replace HO_586003 := sd_ (Kd.R_below (ro_ HO_586003.out) hb)
     replace HO610 := sd_ (Kd.R_below (ro_ HO610.out) hb)
     replace HO613 := sd_ (Kd.R_below (ro_ HO613.out) hb)
     replace HO616 := sd_ (Kd.R_below (ro_ HO616.out) hb)
     replace BK585 := sd_ (bb_ BK585.out hb)
     replace HB := sd_ (below_step (bw1_ HB.out GE585.out) hb)
     (try clear hb)
     (try clear hb2)
     (try clear hk)
     (try clear hi)
     refine hK.out _ _ ⟨(blk_cell BK585.out 0).trans rfl, (blk_cell BK585.out 1).trans rfl, (blk_cell BK585.out 2).trans rfl, (blk_cell BK585.out 3).trans rfl⟩ (fun hHeld => ?_)
     clear hK K
     refine norm_ (a' := ?_) ?_ ?_
     rotate_left
     ·show Act.put _ (some 39) _ = _
      simp only [Act.put, List.setIfInBounds_toArray, List.set_cons_zero, List.set_cons_succ, i64_w, i32_w]
      rfl
     refine pure_ (i := 9) (N := some 40) (v := ?_) (a' := ?_) #[true, true, true, true, true, true, true, true, true, true, false] rfl rfl (any_of HT_.out (by kernel_rfl)) (fun _ _ _ h => h) (Or.inl ⟨by rfl, ?_⟩) ?_ ?_
     rotate_left
     ·intro w'
      go_simp
      with_reducible rfl
     rotate_left
     ·simp only [Act.put, List.setIfInBounds_toArray, List.set_cons_zero, List.set_cons_succ, i64_w, i32_w]
      rfl
     refine pure_ (i := 10) (N := some 2) (v := ?_) (a' := ?_) #[true, true, true, true, true, true, true, true, true, true, true] rfl rfl (any_of HT_.out (by kernel_rfl)) (fun _ _ _ h => h) (Or.inl ⟨by rfl, ?_⟩) ?_ ?_
     rotate_left
     ·intro w'
      go_simp
      with_reducible rfl
     rotate_left
     ·simp only [Act.put, List.setIfInBounds_toArray, List.set_cons_zero, List.set_cons_succ, i64_w, i32_w]
      rfl
     refine done_ (done_of HT_.out (by kernel_rfl)) ?_
     try go_wp2
     go_ret
     exact ⟨an_, bw1_ HB.out GE585.out⟩
    rw [if_neg c22] at H
    have c22b0 : (t605 == t606) = false := by simpa using c22
    (try (have c22b1 : decide (t605 = t606) = false := by simpa using c22))
    (try (have c22b2 : (t605 == t606) = false := by simpa using c22))
    (try (have c22b3 : ¬ (t605 = t606) := by simpa using c22))
    clear c22
    obtain rfl := Option.some.inj H
    exact absurd hr_ (by decide)
 replace c6 := Bool.eq_false_iff.mpr c6
 subst c6
 have H1 : ((impl_IsReliable.f k t575 t576 t579 t582).bind fun t587 => (if t587 = true then (some false) else ((impl_LevelSystem.f k 1).bind fun bt588 => ((impl_IsReliable.f k bt588.1 bt588.2.1 bt588.2.2.1 bt588.2.2.2).bind fun t598 => (some t598))))) = some r := by rw [if_neg (show ¬ (false = true) by decide)] at H; exact H
 clear H
 have H := H1
 clear H1
 replace H := Option.bind_eq_some_iff.mp H
 obtain ⟨t587, A350, H⟩ := H
 try dsimp only at H
 have A35 := sd_ A350
 clear A350
 by_cases c36 : t587 = true
 ·subst c36
  have H1 : (some false) = some r := by rw [if_pos rfl] at H; exact H
  clear H
  have H := H1
  clear H1
  obtain rfl := Option.some.inj H
  exact absurd hr_ (by decide)
 replace c36 := Bool.eq_false_iff.mpr c36
 subst c36
 have H1 : ((impl_LevelSystem.f k 1).bind fun bt588 => ((impl_IsReliable.f k bt588.1 bt588.2.1 bt588.2.2.1 bt588.2.2.2).bind fun t598 => (some t598))) = some r := by rw [if_neg (show ¬ (false = true) by decide)] at H; exact H
 clear H
 have H := H1
 clear H1
 replace H := Option.bind_eq_some_iff.mp H
 obtain ⟨⟨t588, t589, t592, t595⟩, A370, H⟩ := H
 try dsimp only at H
 have A37 := sd_ A370
 clear A370
 replace H := Option.bind_eq_some_iff.mp H
 obtain ⟨t598, A380, H⟩ := H
 try dsimp only at H
 have A38 := sd_ A380
 clear A380
 obtain rfl := Option.some.inj H
 go_enter Try.func8, Try.ntmps8
 go_wp2_with (first | ((with_reducible refine gate_callee (f := 13) rfl ?_); refine goesL_ (some 7) rfl rfl Try.func13 (by kernel_rfl) rfl #[.slice A0 l0.length c0] rfl la_ ?_; (with_reducible refine (laws_big.calls _ _ l0 false _ (kp_ HR0.out) HC0.out A2.out).mono ?_); rintro e w' ⟨rfl, ⟨nd, rfl⟩⟩; refine ⟨_, rfl, ?_⟩) | ((with_reducible refine gate_callee (f := 37) rfl ?_); refine goesL_ (some 9) rfl rfl Try.func37 (by kernel_rfl) rfl #[.slice A0 l0.length c0] rfl la_ ?_; (with_reducible refine (spec_DrawIsReliable.calls k _ _ l0 t575 t576 t579 t582 _ (kp_ HR0.out) HC0.out A4.out).mono ?_); rintro e w39 ⟨v577, v580, v583, rfl, ho0, ho1, ho2, hb⟩; refine ⟨_, rfl, ?_⟩; have HO578 := sd_ (Kd.R_lower ho0 (below_size (bw0_ HB.out))); have HO581 := sd_ (Kd.R_lower ho1 (below_size (bw0_ HB.out))); have HO584 := sd_ (Kd.R_lower ho2 (below_size (bw0_ HB.out))); replace HB := sd_ (below_step (bw0_ HB.out) hb); (try clear ho0); (try clear ho1); (try clear ho2)) | ((with_reducible refine gate_dst (N := 3) rfl ?_); refine bx_ (N := 3) (cs := #[.int .i64 0, .slice none 0 0, .slice none 0 0, .slice none 0 0]) (t := 27) ?_; intro gb585 hg w40 hbox hb; replace HO578 := sd_ (Kd.R_below (ro_ HO578.out) hb); replace HO581 := sd_ (Kd.R_below (ro_ HO581.out) hb); replace HO584 := sd_ (Kd.R_below (ro_ HO584.out) hb); have BK585 := sd_ (hbox); have GW585 := sd_ (gs_ hg (bw0_ HB.out)); have GE585 := sd_ (gs_ hg (bw0_ HB.out)); replace HB := sd_ (below_step (bw0_ HB.out) hb); clear hb hbox hg; obtain ⟨hcz41_0, hcz41_1, hcz41_2, hcz41_3, hfz41_0, hfz41_1, hfz41_2, hfz41_3⟩ := bf4_ BK585.out; obtain ⟨Ao42, co42, eo42⟩ := Kd.R_slice HO578.out; subst eo42; obtain ⟨Ao43, co43, eo43⟩ := Kd.R_slice HO581.out; subst eo43; obtain ⟨Ao44, co44, eo44⟩ := Kd.R_slice HO584.out; subst eo44) | ((with_reducible refine gate_callee (f := 38) rfl ?_); refine goesL_ (some 11) rfl rfl Try.func38 (by kernel_rfl) rfl #[.agg #[.int .i64 t575, .slice Ao42 t576.length co42, .slice Ao43 t579.length co43, .slice Ao44 t582.length co44]] rfl la_ ?_; (with_reducible refine (spec_IsSystem.calls k t575 _ _ t576 _ _ t579 _ _ t582 false _ ?side1 ?side2 ?side3 ?side4 ?side5 ?side6 A5.out).mono ?_); (case side1 => refine (Kd.R_reads' (e := 3) (base := w.heap.size) (ok := fun k_ => some k_ ≠ (.slice Ao43 t579.length co43 : Value).ownBlock) (A := Ao42) (n := t576.length) (c := co42) ?_).2.2; exact (by (with_reducible repeat (first | apply Kd.R_alloc | apply Kd.R_drewN | apply Kd.R_drew)); exact (rf_ HO578.out BK585.out))); (case side2 => exact (Kd.R_reads' HO578.out).2.1); (case side3 => refine (Kd.R_reads' (e := 3) (base := w.heap.size) (ok := fun k_ => some k_ ≠ (.slice Ao42 t576.length co42 : Value).ownBlock) (A := Ao43) (n := t579.length) (c := co43) ?_).2.2; exact (by (with_reducible repeat (first | apply Kd.R_alloc | apply Kd.R_drewN | apply Kd.R_drew)); exact (rf_ HO581.out BK585.out))); (case side4 => exact (Kd.R_reads' HO581.out).2.1); (case side5 => refine (Kd.R_reads' (e := 4) (base := w.heap.size) (ok := fun k_ => True) (A := Ao44) (n := t582.length) (c := co44) ?_).2.2; exact (by (with_reducible repeat (first | apply Kd.R_alloc | apply Kd.R_drewN | apply Kd.R_drew)); exact (rf_ HO584.out BK585.out))); (case side6 => exact (Kd.R_reads' HO584.out).2.1); rintro e w45 ⟨rfl, hb⟩; refine ⟨_, rfl, ?_⟩; replace HO578 := sd_ (Kd.R_below (by (with_reducible repeat (first | apply Kd.R_alloc | apply Kd.R_drewN | apply Kd.R_drew)); exact (rf_ HO578.out BK585.out)) hb); replace HO581 := sd_ (Kd.R_below (by (with_reducible repeat (first | apply Kd.R_alloc | apply Kd.R_drewN | apply Kd.R_drew)); exact (rf_ HO581.out BK585.out)) hb); replace HO584 := sd_ (Kd.R_below (by (with_reducible repeat (first | apply Kd.R_alloc | apply Kd.R_drewN | apply Kd.R_drew)); exact (rf_ HO584.out BK585.out)) hb); replace BK585 := sd_ (blk_below (g := gb585) (o := .cells #[.int .i64 t575, .slice Ao42 t576.length co42, .slice Ao43 t579.length co43, .slice Ao44 t582.length co44] 27 (0, 0)) (by (with_reducible repeat (first | refine blk_drewN ?_ _ | refine blk_drew ?_ | refine blk_alloc ?_ _)); refine blk_put (cs := #[.int .i64 t575, .slice Ao42 t576.length co42, .slice Ao43 t579.length co43, .slice none 0 0]) ?_ 3 _ rfl; (with_reducible repeat (first | refine blk_drewN ?_ _ | refine blk_drew ?_ | refine blk_alloc ?_ _)); refine blk_put (cs := #[.int .i64 t575, .slice Ao42 t576.length co42, .slice none 0 0, .slice none 0 0]) ?_ 2 _ rfl; (with_reducible repeat (first | refine blk_drewN ?_ _ | refine blk_drew ?_ | refine blk_alloc ?_ _)); refine blk_put (cs := #[.int .i64 t575, .slice none 0 0, .slice none 0 0, .slice none 0 0]) ?_ 1 _ rfl; (with_reducible repeat (first | refine blk_drewN ?_ _ | refine blk_drew ?_ | refine blk_alloc ?_ _)); refine blk_put (cs := #[.int .i64 0, .slice none 0 0, .slice none 0 0, .slice none 0 0]) ?_ 0 _ rfl; exact bz_ BK585.out) hb); replace HB := sd_ (below_step (bw1_ HB.out GE585.out) hb); (try clear hb); obtain ⟨hcz46_0, hcz46_1, hcz46_2, hcz46_3, hfz46_0, hfz46_1, hfz46_2, hfz46_3⟩ := bf4_ BK585.out) | ((with_reducible refine gate_callee (f := 39) rfl ?_); refine goesL_ (some 14) rfl rfl Try.func39 (by kernel_rfl) rfl #[.agg #[.int .i64 t575, .slice Ao42 t576.length co42, .slice Ao43 t579.length co43, .slice Ao44 t582.length co44]] rfl la_ ?_; (with_reducible refine (impl_IsReliable.calls k t575 _ _ t576 _ _ t579 _ _ t582 false _ ?side1 ?side2 ?side3 ?side4 ?side5 ?side6 A35.out).mono ?_); (case side1 => exact kp_ (Kd.R_reads' HO578.out).2.2); (case side2 => exact (Kd.R_reads' HO578.out).2.1); (case side3 => exact kp_ (Kd.R_reads' HO581.out).2.2); (case side4 => exact (Kd.R_reads' HO581.out).2.1); (case side5 => exact kp_ (Kd.R_reads' HO584.out).2.2); (case side6 => exact (Kd.R_reads' HO584.out).2.1); rintro e w47 ⟨rfl, hb⟩; refine ⟨_, rfl, ?_⟩; replace HO578 := sd_ (Kd.R_below (ro_ HO578.out) hb); replace HO581 := sd_ (Kd.R_below (ro_ HO581.out) hb); replace HO584 := sd_ (Kd.R_below (ro_ HO584.out) hb); replace BK585 := sd_ (bb_ BK585.out hb); replace HB := sd_ (below_step (bw1_ HB.out GE585.out) hb); (try clear hb)) | (go_at_call 15; (with_reducible refine (impl_LevelSystem.calls k 1 t588 t589 t592 t595 _ A37.out).mono ?_); rintro e w48 ⟨v590, v593, v596, rfl, ho0, ho1, ho2, hb⟩; have HO591 := sd_ (Kd.R_lower (Kd.R_new' (Kd.R_new' ho0 (Kd.R_lt (ro_ HO578.out))) (Kd.R_lt (ro_ HO581.out))) (below_size (bw1_ HB.out GE585.out))); have HO594 := sd_ (Kd.R_lower (Kd.R_new' (Kd.R_new' ho1 (Kd.R_lt (ro_ HO578.out))) (Kd.R_lt (ro_ HO581.out))) (below_size (bw1_ HB.out GE585.out))); replace HO578 := sd_ (Kd.R_mono (Kd.R_told (Kd.R_told (Kd.R_old (ro_ HO578.out) hb) (Kd.R_base ho0)) (Kd.R_base ho1)) (fun _ h_ => h_.1)); replace HO581 := sd_ (Kd.R_mono (Kd.R_told (Kd.R_told (Kd.R_old (ro_ HO581.out) hb) (Kd.R_base ho0)) (Kd.R_base ho1)) (fun _ h_ => h_.1)); have HO597 := sd_ (Kd.R_lower (Kd.R_new' ho2 (Kd.R_lt (ro_ HO584.out))) (below_size (bw1_ HB.out GE585.out))); replace HO584 := sd_ (Kd.R_elder' (ro_ HO584.out) (Kd.R_base ho2) hb); replace BK585 := sd_ (bb_ BK585.out hb); replace HB := sd_ (below_step (bw1_ HB.out GE585.out) hb); (try clear hb); (try clear ho0); (try clear ho1); (try clear ho2); obtain ⟨Ao49, co49, eo49⟩ := Kd.R_slice HO591.out; subst eo49; obtain ⟨Ao50, co50, eo50⟩ := Kd.R_slice HO594.out; subst eo50; obtain ⟨Ao51, co51, eo51⟩ := Kd.R_slice HO597.out; subst eo51) | (go_at_call 39; (with_reducible refine (impl_IsReliable.calls k t588 _ _ t589 _ _ t592 _ _ t595 t598 _ ?side1 ?side2 ?side3 ?side4 ?side5 ?side6 A38.out).mono ?_); (case side1 => exact kp_ (Kd.R_reads' HO591.out).2.2); (case side2 => exact (Kd.R_reads' HO591.out).2.1); (case side3 => exact kp_ (Kd.R_reads' HO594.out).2.2); (case side4 => exact (Kd.R_reads' HO594.out).2.1); (case side5 => exact kp_ (Kd.R_reads' HO597.out).2.2); (case side6 => exact (Kd.R_reads' HO597.out).2.1); rintro e w52 ⟨rfl, hb⟩; replace HO578 := sd_ (Kd.R_below (ro_ HO578.out) hb); replace HO581 := sd_ (Kd.R_below (ro_ HO581.out) hb); replace HO584 := sd_ (Kd.R_below (ro_ HO584.out) hb); replace HO591 := sd_ (Kd.R_below (ro_ HO591.out) hb); replace HO594 := sd_ (Kd.R_below (ro_ HO594.out) hb); replace HO597 := sd_ (Kd.R_below (ro_ HO597.out) hb); replace BK585 := sd_ (bb_ BK585.out hb); replace HB := sd_ (below_step (bw1_ HB.out GE585.out) hb); (try clear hb)))
 go_ret
 exact ⟨an_, bw1_ HB.out GE585.out⟩

def laws_FnReliable.Pure : Prop := ∀ (l0 : List Int), ((∀ z ∈ l0, (Lit.int .u8 z).wf = true) ∧ l0.length ≤ maxLen) → ∃ k, laws_FnReliable.f k l0 = some true

end Go.Proofs.Ytcdmnofomoadlaa.P
