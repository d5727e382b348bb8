-- Printed by this session's own program (wip/tools/mkprint.py) out of the translation. Not trusted: Lean checks it.
import Derived.Test.YtcdmnofomoadlaaM1
import Derived.Test.YtcdmnofomoadlaaPf100
import Derived.Test.YtcdmnofomoadlaaM4
import Derived.Test.YtcdmnofomoadlaaM6
import Derived.Test.YtcdmnofomoadlaaM2
/-! short words -/
namespace Go.Proofs.Ytcdmnofomoadlaa.P
open Go.RowKit Go.Proofs.YtcdmnofomoadlaaW.PrintWords Go.Proofs.YtcdmnofomoadlaaW.PrintLast Go.Proofs.YtcdmnofomoadlaaW.PrintMore
attribute [local go_sem] max2_int min2_int max_two min_two max_three min_three max_four min_four   -- for this text's walks alone
set_option linter.unusedVariables false
set_option linter.unusedSimpArgs false

/-! ### spec_dAnySystem: function 96 -/
def spec_dAnySystem.f (k : Nat) (s0_0 : List Int) (s0_1 : Int) (s0_2 : Int) : Option (Int × List Int × List Int × List Bool × Int × Int) := (spec_dSystem.f k s0_0 s0_1 s0_2).bind fun bt400 => ((spec_l1Below.f s0_0 bt400.2.2.2.2.1 bt400.2.2.2.2.2 9).bind fun bt413 => (if bt413.1 = 0 then ((spec_l1Below.f s0_0 bt413.2.1 bt413.2.2 (bt400.2.1.length : Int)).bind fun bt416 => ((spec_l1Below.f s0_0 bt416.2.1 bt416.2.2 (wrap64 (bt400.1 + 1))).bind fun bt419 => (if 0 ≤ bt416.1 then (if bt416.1 < (bt400.2.1.length : Int) then (some (bt400.1, (bt400.2.1.set (bt416.1 : Int).toNat bt419.1), bt400.2.2.1, bt400.2.2.2.1, bt419.2.1, bt419.2.2)) else (none)) else (none)))) else (if bt413.1 = 1 then ((spec_l1Below.f s0_0 bt413.2.1 bt413.2.2 (bt400.2.2.1.length : Int)).bind fun bt423 => ((spec_l1Below.f s0_0 bt423.2.1 bt423.2.2 bt400.1).bind fun bt426 => (if 0 ≤ bt423.1 then (if bt423.1 < (bt400.2.2.1.length : Int) then (some (bt400.1, bt400.2.1, (bt400.2.2.1.set (bt423.1 : Int).toNat bt426.1), bt400.2.2.2.1, bt426.2.1, bt426.2.2)) else (none)) else (none)))) else (if bt413.1 = 2 then ((spec_l1Below.f s0_0 bt413.2.1 bt413.2.2 (bt400.2.2.2.1.length : Int)).bind fun bt430 => (if 0 ≤ bt430.1 then (if bt430.1 < (bt400.2.2.2.1.length : Int) then (some (bt400.1, bt400.2.1, bt400.2.2.1, (bt400.2.2.2.1.set (bt430.1 : Int).toNat (!(rdOf false bt400.2.2.2.1 bt430.1))), bt430.2.1, bt430.2.2)) else (none)) else (none))) else (if bt413.1 = 3 then ((spec_dBent.f s0_0 bt413.2.1 bt413.2.2).bind fun bt435 => (some (bt435.1, bt400.2.1, bt400.2.2.1, bt400.2.2.2.1, bt435.2.1, bt435.2.2))) else (some (bt400.1, bt400.2.1, bt400.2.2.1, bt400.2.2.2.1, bt413.2.1, bt413.2.2)))))))
def spec_dAnySystem.T4 : Bool × List (List Nat × List Nat) := (true, [([], []), ([0], [0]), ([], []), ([], []), ([3], [3]), ([4], [4]), ([2, 5], [2, 5]), ([], []), ([], []), ([8], [8]), ([9], [9]), ([7, 10, 6], [7, 10]), ([1, 6, 0, 1, 2, 3, 4, 5, 6, 7, 8, 9, 10, 11], [1, 6]), ([12, 11, 11, 0, 1, 2, 3, 4, 5, 6, 7, 8, 9, 10, 11], [11, 12])])
def spec_dAnySystem.B4 : List Nat := [0, 1, 0, 0, 8, 24, 60, 0, 0, 256, 768, 2044, 4095, 8191]
theorem spec_dAnySystem.tab4 : rtab .any (opsOf Try.f96 4) = spec_dAnySystem.T4 := by kernel_rfl
theorem spec_dAnySystem.bits4 : waitsOk spec_dAnySystem.T4.2 spec_dAnySystem.B4 = true := by kernel_rfl
def spec_dAnySystem.T6 : Bool × List (List Nat × List Nat) := (true, [([], []), ([0], [0]), ([], []), ([], []), ([3], [3]), ([4], [4]), ([2, 5], [2, 5]), ([], []), ([], []), ([8], [8]), ([7, 9, 6], [7, 9]), ([1, 6, 0, 1, 2, 3, 4, 5, 6, 7, 8, 9, 10], [1, 6]), ([11, 10, 10, 0, 1, 2, 3, 4, 5, 6, 7, 8, 9, 10], [10, 11])])
def spec_dAnySystem.B6 : List Nat := [0, 1, 0, 0, 8, 24, 60, 0, 0, 256, 1020, 2047, 4095]
theorem spec_dAnySystem.tab6 : rtab .any (opsOf Try.f96 6) = spec_dAnySystem.T6 := by kernel_rfl
theorem spec_dAnySystem.bits6 : waitsOk spec_dAnySystem.T6.2 spec_dAnySystem.B6 = true := by kernel_rfl
def spec_dAnySystem.T9 : Bool × List (List Nat × List Nat) := (true, [([], []), ([0], [0]), ([], []), ([], []), ([3], [3]), ([], []), ([4, 5], [4, 5]), ([6], [6]), ([7], [7]), ([1, 2, 0, 1, 2, 3, 4, 5, 6, 7, 8], [1, 2]), ([9, 8, 0, 1, 2, 3, 4, 5, 6, 7, 8], [8, 9])])
def spec_dAnySystem.B9 : List Nat := [0, 1, 0, 0, 8, 0, 56, 120, 248, 511, 1023]
theorem spec_dAnySystem.tab9 : rtab .any (opsOf Try.f96 9) = spec_dAnySystem.T9 := by kernel_rfl
theorem spec_dAnySystem.bits9 : waitsOk spec_dAnySystem.T9.2 spec_dAnySystem.B9 = true := by kernel_rfl
set_option maxHeartbeats 8000000 in
set_option maxRecDepth 100000 in
theorem spec_dAnySystem.calls (k : Nat) (g : Nat) (s0_0 : List Int) (s0_1 : Int) (s0_2 : Int) (r1 : Int) (r2 : List Int) (r3 : List Int) (r4 : List Bool) (r5 : Int) (r6 : Int) (w0 w : World) (hI : IsS96 w0 w g s0_0 s0_1 s0_2) (hB : Below w0.heap.size w0 w) (h : spec_dAnySystem.f k s0_0 s0_1 s0_2 = some (r1, r2, r3, r4, r5, r6)) :
  Calls Try.prog 96 #[.pointer (some ⟨g, 0, none⟩)] w fun e w' => ∃ v1_ v2_ v3_ : Value, e = .returned (.agg #[.int .i64 r1, v1_, v2_, v3_]) ∧ Kd.R (Kd.int .i64) 3 w' w.heap.size (fun k_ => some k_ ≠ (v2_ : Value).ownBlock) v1_ r2 ∧ Kd.R (Kd.int .i64) 3 w' w.heap.size (fun k_ => some k_ ≠ (v1_ : Value).ownBlock) v2_ r3 ∧ Kd.R Kd.bool 4 w' w.heap.size (fun _ => True) v3_ r4 ∧ IsS96 w0 w' g s0_0 r5 r6 ∧ Below w0.heap.size w0 w' ∧ KeepBut w w' g none := by
 have hu27 := Try.underlying27
 have HI0 := sd_ hI
 have HK := sd_ (KeepBut.refl w g none)
 have HL := sd_ hB.size
 clear hI
 have HW0 := sd_ hB.size
 have HB := sd_ hB
 clear hB
 have H : ((spec_dSystem.f k s0_0 s0_1 s0_2).bind fun bt400 => ((spec_l1Below.f s0_0 bt400.2.2.2.2.1 bt400.2.2.2.2.2 9).bind fun bt413 => (if bt413.1 = 0 then ((spec_l1Below.f s0_0 bt413.2.1 bt413.2.2 (bt400.2.1.length : Int)).bind fun bt416 => ((spec_l1Below.f s0_0 bt416.2.1 bt416.2.2 (wrap64 (bt400.1 + 1))).bind fun bt419 => (if 0 ≤ bt416.1 then (if bt416.1 < (bt400.2.1.length : Int) then (some (bt400.1, (bt400.2.1.set (bt416.1 : Int).toNat bt419.1), bt400.2.2.1, bt400.2.2.2.1, bt419.2.1, bt419.2.2)) else (none)) else (none)))) else (if bt413.1 = 1 then ((spec_l1Below.f s0_0 bt413.2.1 bt413.2.2 (bt400.2.2.1.length : Int)).bind fun bt423 => ((spec_l1Below.f s0_0 bt423.2.1 bt423.2.2 bt400.1).bind fun bt426 => (if 0 ≤ bt423.1 then (if bt423.1 < (bt400.2.2.1.length : Int) then (some (bt400.1, bt400.2.1, (bt400.2.2.1.set (bt423.1 : Int).toNat bt426.1), bt400.2.2.2.1, bt426.2.1, bt426.2.2)) else (none)) else (none)))) else (if bt413.1 = 2 then ((spec_l1Below.f s0_0 bt413.2.1 bt413.2.2 (bt400.2.2.2.1.length : Int)).bind fun bt430 => (if 0 ≤ bt430.1 then (if bt430.1 < (bt400.2.2.2.1.length : Int) then (some (bt400.1, bt400.2.1, bt400.2.2.1, (bt400.2.2.2.1.set (bt430.1 : Int).toNat (!(rdOf false bt400.2.2.2.1 bt430.1))), bt430.2.1, bt430.2.2)) else (none)) else (none))) else (if bt413.1 = 3 then ((spec_dBent.f s0_0 bt413.2.1 bt413.2.2).bind fun bt435 => (some (bt435.1, bt400.2.1, bt400.2.2.1, bt400.2.2.2.1, bt435.2.1, bt435.2.2))) else (some (bt400.1, bt400.2.1, bt400.2.2.1, bt400.2.2.2.1, bt413.2.1, bt413.2.2)))))))) = some (r1, r2, r3, r4, r5, r6) := h
 clear h
 replace H := Option.bind_eq_some_iff.mp H
 obtain ⟨⟨t400, t401, t404, t407, t410, t411⟩, A20, H⟩ := H
 try dsimp only at H
 have A2 := sd_ A20
 clear A20
 replace H := Option.bind_eq_some_iff.mp H
 obtain ⟨⟨t413, t414, t415⟩, A30, H⟩ := H
 try dsimp only at H
 have A3 := sd_ A30
 clear A30
 by_cases c4 : t413 = 0
 ·rw [if_pos c4] at H
  have c4b0 : (t413 == 0) = true := beq_iff_eq.mpr c4
  have c4b1 : (t413 != 0) = false := bne_eq_false_iff_eq.mpr c4
  clear c4
  replace H := Option.bind_eq_some_iff.mp H
  obtain ⟨⟨t416, t417, t418⟩, A50, H⟩ := H
  try dsimp only at H
  have A5 := sd_ A50
  clear A50
  replace H := Option.bind_eq_some_iff.mp H
  obtain ⟨⟨t419, t420, t421⟩, A60, H⟩ := H
  try dsimp only at H
  have A6 := sd_ A60
  clear A60
  by_cases c7 : 0 ≤ t416
  ·rw [if_pos c7] at H
   have c7b0 : decide (0 ≤ t416) = true := decide_eq_true c7
   clear c7
   by_cases c8 : t416 < (t401.length : Int)
   ·rw [if_pos c8] at H
    have c8b0 : decide (t416 < (t401.length : Int)) = true := decide_eq_true c8
    clear c8
    obtain ⟨y422, hy422⟩ : ∃ y_ : List Int, y_ = (t401.set (t416 : Int).toNat t419) := ⟨_, rfl⟩
    replace H : (some (t400, y422, t404, t407, t420, t421)) = some (r1, r2, r3, r4, r5, r6) := by first | (rw [hy422]; with_reducible exact H) | (have H2_ := (Option.bind_some _ _).symm.trans H; rw [hy422]; with_reducible exact H2_) | (have H2_ := (Option.bind_some _ _).symm.trans H; with_reducible exact H2_) | with_reducible exact H | (rw [hy422]; exact H) | exact H
    have Ny422 := sd_ hy422
    clear hy422
    simp only [Option.some.injEq, Prod.mk.injEq] at H
    obtain ⟨rfl, rfl, rfl, rfl, rfl, rfl⟩ := H
    go_enter Try.func96, Try.ntmps96
    try go_wp2_with (first | ((with_reducible refine gate_dst (N := 2) rfl ?_); refine bx_ (N := 2) (cs := #[.int .i64 0, .slice none 0 0, .slice none 0 0, .slice none 0 0]) (t := 27) ?_; intro gb399 hg w10 hbox hb; replace HB := sd_ (below_step (by repeat (first | (with_reducible first | exact HB.out | apply below_alloc | apply pw_below_drewN | apply below_drew1 | refine below_set ?_ (IsS96.ge HI0.out)) | exact HB.out)) hb); have BK399 := sd_ (hbox); have GW399 := sd_ ((by rw [hg]; exact (keep_size (w := w) (g := g) (row := none) (by repeat (first | (with_reducible first | exact HK.out | apply KeepBut.set_ | apply keep_drewN | apply keep_drew | apply keep_alloc) | exact HK.out))) : w.heap.size ≤ gb399)); have GE399 := sd_ ((Nat.le_trans HW0.out (by rw [hg]; exact (keep_size (w := w) (g := g) (row := none) (by repeat (first | (with_reducible first | exact HK.out | apply KeepBut.set_ | apply keep_drewN | apply keep_drew | apply keep_alloc) | exact HK.out))) : w.heap.size ≤ gb399) : w0.heap.size ≤ gb399)); replace HK := sd_ (KeepBut.trans (by repeat (first | (with_reducible first | exact HK.out | apply KeepBut.set_ | apply keep_drewN | apply keep_drew | apply keep_alloc) | exact HK.out)) (KeepBut.of_below hb g none) (.inl rfl)); have NB0_399 := sd_ ((by rw [hg]; exact Nat.ne_of_lt (IsS96.lt (show IsS96 w0 _ g s0_0 s0_1 s0_2 from by repeat (first | (with_reducible first | exact HI0.out | apply IsS96.alloc | apply IsS96.drewN | apply IsS96.drew | apply IsS96.set_1 | apply IsS96.set_2) | exact HI0.out))) : g ≠ gb399)); have NB399_0 := sd_ ((by rw [hg]; exact Nat.ne_of_gt (IsS96.lt (show IsS96 w0 _ g s0_0 s0_1 s0_2 from by repeat (first | (with_reducible first | exact HI0.out | apply IsS96.alloc | apply IsS96.drewN | apply IsS96.drew | apply IsS96.set_1 | apply IsS96.set_2) | exact HI0.out))) : gb399 ≠ g)); replace HI0 := sd_ (IsS96.below (by repeat (first | (with_reducible first | exact HI0.out | apply IsS96.alloc | apply IsS96.drewN | apply IsS96.drew | apply IsS96.set_1 | apply IsS96.set_2) | exact HI0.out)) hb); clear hb hbox hg) | ((with_reducible refine gate_callee (f := 100) rfl ?_); refine goesL_ (some 6) rfl rfl Try.func100 (by kernel_rfl) rfl #[.pointer (some ⟨g, 0, none⟩)] rfl la_ ?_; (with_reducible refine (spec_dSystem.calls k g s0_0 s0_1 s0_2 t400 t401 t404 t407 t410 t411 w0 _ ?side1 ?side2 A2.out).mono ?_); (case side1 => repeat (first | (with_reducible first | exact HI0.out | apply IsS96.alloc | apply IsS96.drewN | apply IsS96.drew | apply IsS96.set_1 | apply IsS96.set_2 | refine IsS96.far ?_ NB0_399.out _) | exact HI0.out)); (case side2 => repeat (first | (with_reducible first | exact HB.out | apply below_alloc | apply pw_below_drewN | apply below_drew1 | refine below_set ?_ (IsS96.ge HI0.out) | refine below_set ?_ GE399.out) | exact HB.out)); rintro e w11 ⟨v402, v405, v408, rfl, ho0, ho1, ho2, hi, hb, hk⟩; refine ⟨_, rfl, ?_⟩; replace BK399 := sd_ (KeepBut.blk hk (g' := gb399) (o := .cells #[.int .i64 0, .slice none 0 0, .slice none 0 0, .slice none 0 0] 27 (0, 0)) (bz_ BK399.out) NB399_0.out (by simp)); have HO403 := sd_ (Kd.R_lower ho0 (keep_size (w := w) (g := g) (row := none) (by repeat (first | (with_reducible first | exact HK.out | apply KeepBut.set_ | apply keep_drewN | apply keep_drew | apply keep_alloc | refine keep_far ?_ GW399.out _) | exact HK.out)))); have HO406 := sd_ (Kd.R_lower ho1 (keep_size (w := w) (g := g) (row := none) (by repeat (first | (with_reducible first | exact HK.out | apply KeepBut.set_ | apply keep_drewN | apply keep_drew | apply keep_alloc | refine keep_far ?_ GW399.out _) | exact HK.out)))); have HO409 := sd_ (Kd.R_lower ho2 (keep_size (w := w) (g := g) (row := none) (by repeat (first | (with_reducible first | exact HK.out | apply KeepBut.set_ | apply keep_drewN | apply keep_drew | apply keep_alloc | refine keep_far ?_ GW399.out _) | exact HK.out)))); replace HK := sd_ (KeepBut.trans (by repeat (first | (with_reducible first | exact HK.out | apply KeepBut.set_ | apply keep_drewN | apply keep_drew | apply keep_alloc | refine keep_far ?_ GW399.out _) | exact HK.out)) hk (.inl rfl)); replace HB := sd_ (hb); replace HI0 := sd_ (hi); (try clear hb); (try clear hk); (try clear hi); (try clear ho0); (try clear ho1); (try clear ho2)) | ((with_reducible refine gate_dst (N := 3) rfl ?_); refine bx_ (N := 3) (cs := #[.int .i64 0, .slice none 0 0, .slice none 0 0, .slice none 0 0]) (t := 27) ?_; intro gb412 hg w12 hbox hb; replace HO403 := sd_ (Kd.R_below (ro_ HO403.out) hb); replace HO406 := sd_ (Kd.R_below (ro_ HO406.out) hb); replace HO409 := sd_ (Kd.R_below (ro_ HO409.out) hb); replace HB := sd_ (below_step (by repeat (first | (with_reducible first | exact HB.out | apply below_alloc | apply pw_below_drewN | apply below_drew1 | refine below_set ?_ (IsS96.ge HI0.out) | refine below_set ?_ GE399.out) | exact HB.out)) hb); have BK412 := sd_ (hbox); have GW412 := sd_ ((by rw [hg]; exact (keep_size (w := w) (g := g) (row := none) (by repeat (first | (with_reducible first | exact HK.out | apply KeepBut.set_ | apply keep_drewN | apply keep_drew | apply keep_alloc | refine keep_far ?_ GW399.out _) | exact HK.out))) : w.heap.size ≤ gb412)); have GE412 := sd_ ((Nat.le_trans HW0.out (by rw [hg]; exact (keep_size (w := w) (g := g) (row := none) (by repeat (first | (with_reducible first | exact HK.out | apply KeepBut.set_ | apply keep_drewN | apply keep_drew | apply keep_alloc | refine keep_far ?_ GW399.out _) | exact HK.out))) : w.heap.size ≤ gb412) : w0.heap.size ≤ gb412)); replace HK := sd_ (KeepBut.trans (by repeat (first | (with_reducible first | exact HK.out | apply KeepBut.set_ | apply keep_drewN | apply keep_drew | apply keep_alloc | refine keep_far ?_ GW399.out _) | exact HK.out)) (KeepBut.of_below hb g none) (.inl rfl)); have NB399_412 := sd_ (nl_ hg (bl_ BK399.out)); have NB412_399 := sd_ (ng_ hg (bl_ BK399.out)); replace BK399 := sd_ (bb_ BK399.out hb); have NB0_412 := sd_ ((by rw [hg]; exact Nat.ne_of_lt (IsS96.lt (show IsS96 w0 _ g s0_0 t410 t411 from by repeat (first | (with_reducible first | exact HI0.out | apply IsS96.alloc | apply IsS96.drewN | apply IsS96.drew | apply IsS96.set_1 | apply IsS96.set_2 | refine IsS96.far ?_ NB0_399.out _) | exact HI0.out))) : g ≠ gb412)); have NB412_0 := sd_ ((by rw [hg]; exact Nat.ne_of_gt (IsS96.lt (show IsS96 w0 _ g s0_0 t410 t411 from by repeat (first | (with_reducible first | exact HI0.out | apply IsS96.alloc | apply IsS96.drewN | apply IsS96.drew | apply IsS96.set_1 | apply IsS96.set_2 | refine IsS96.far ?_ NB0_399.out _) | exact HI0.out))) : gb412 ≠ g)); replace HI0 := sd_ (IsS96.below (by repeat (first | (with_reducible first | exact HI0.out | apply IsS96.alloc | apply IsS96.drewN | apply IsS96.drew | apply IsS96.set_1 | apply IsS96.set_2 | refine IsS96.far ?_ NB0_399.out _) | exact HI0.out)) hb); clear hb hbox hg; have hnb13 := NB412_399.out; have hnc13 := NB399_412.out; have hnb14 := NB412_0.out; have hnc14 := NB0_412.out; obtain ⟨hcz15_0, hcz15_1, hcz15_2, hcz15_3, hfz15_0, hfz15_1, hfz15_2, hfz15_3⟩ := bf4_ BK412.out; obtain ⟨Ao16, co16, eo16⟩ := Kd.R_slice HO403.out; subst eo16; obtain ⟨Ao17, co17, eo17⟩ := Kd.R_slice HO406.out; subst eo17; obtain ⟨Ao18, co18, eo18⟩ := Kd.R_slice HO409.out; subst eo18) | ((with_reducible refine gate_callee (f := 112) rfl ?_); refine goesL_ (some 8) rfl rfl Try.func112 (by kernel_rfl) rfl #[.pointer (some ⟨g, 0, none⟩), .int .i64 9] rfl la_ ?_; (with_reducible refine (spec_l1Below.calls g s0_0 t410 t411 9 t413 t414 t415 w0 _ ?side1 ?side2 A3.out).mono ?_); (case side1 => repeat (first | (with_reducible first | exact HI0.out | apply IsS96.alloc | apply IsS96.drewN | apply IsS96.drew | apply IsS96.set_1 | apply IsS96.set_2 | refine IsS96.far ?_ NB0_399.out _ | refine IsS96.far ?_ NB0_412.out _) | exact HI0.out)); (case side2 => repeat (first | (with_reducible first | exact HB.out | apply below_alloc | apply pw_below_drewN | apply below_drew1 | refine below_set ?_ (IsS96.ge HI0.out) | refine below_set ?_ GE399.out | refine below_set ?_ GE412.out) | exact HB.out)); rintro e w19 ⟨rfl, hi, hb, hk⟩; refine ⟨_, rfl, ?_⟩; replace BK399 := sd_ (KeepBut.blk hk (g' := gb399) (o := .cells #[.int .i64 0, .slice none 0 0, .slice none 0 0, .slice none 0 0] 27 (0, 0)) (by exact zf1_ BK399.out NB399_412.out) NB399_0.out (by simp)); replace HO403 := sd_ (Kd.R_mono (Kd.R_keep (IsS96.apart (show IsS96 w0 _ g s0_0 t410 t411 from by repeat (first | (with_reducible first | exact HI0.out | apply IsS96.alloc | apply IsS96.drewN | apply IsS96.drew | apply IsS96.set_1 | apply IsS96.set_2 | refine IsS96.far ?_ NB0_399.out _ | refine IsS96.far ?_ NB0_412.out _) | exact HI0.out)) (by (with_reducible repeat (first | apply Kd.R_alloc | apply Kd.R_drewN | apply Kd.R_drew)); exact (rf_ HO403.out BK412.out)) (by decide)) hk (fun _ h => h.2)) (fun _ h => h.1)); replace HO406 := sd_ (Kd.R_mono (Kd.R_keep (IsS96.apart (show IsS96 w0 _ g s0_0 t410 t411 from by repeat (first | (with_reducible first | exact HI0.out | apply IsS96.alloc | apply IsS96.drewN | apply IsS96.drew | apply IsS96.set_1 | apply IsS96.set_2 | refine IsS96.far ?_ NB0_399.out _ | refine IsS96.far ?_ NB0_412.out _) | exact HI0.out)) (by (with_reducible repeat (first | apply Kd.R_alloc | apply Kd.R_drewN | apply Kd.R_drew)); exact (rf_ HO406.out BK412.out)) (by decide)) hk (fun _ h => h.2)) (fun _ h => h.1)); replace HO409 := sd_ (Kd.R_mono (Kd.R_keep (IsS96.apart (show IsS96 w0 _ g s0_0 t410 t411 from by repeat (first | (with_reducible first | exact HI0.out | apply IsS96.alloc | apply IsS96.drewN | apply IsS96.drew | apply IsS96.set_1 | apply IsS96.set_2 | refine IsS96.far ?_ NB0_399.out _ | refine IsS96.far ?_ NB0_412.out _) | exact HI0.out)) (by (with_reducible repeat (first | apply Kd.R_alloc | apply Kd.R_drewN | apply Kd.R_drew)); exact (rf_ HO409.out BK412.out)) (by decide)) hk (fun _ h => h.2)) (fun _ h => h.1)); replace BK412 := sd_ (KeepBut.blk hk (g' := gb412) (o := .cells #[.int .i64 t400, .slice Ao16 t401.length co16, .slice Ao17 t404.length co17, .slice Ao18 t407.length co18] 27 (0, 0)) (by (with_reducible repeat (first | refine blk_drewN ?_ _ | refine blk_drew ?_ | refine blk_alloc ?_ _)); refine blk_put (cs := #[.int .i64 t400, .slice Ao16 t401.length co16, .slice Ao17 t404.length co17, .slice none 0 0]) ?_ 3 _ rfl; (with_reducible repeat (first | refine blk_drewN ?_ _ | refine blk_drew ?_ | refine blk_alloc ?_ _)); refine blk_put (cs := #[.int .i64 t400, .slice Ao16 t401.length co16, .slice none 0 0, .slice none 0 0]) ?_ 2 _ rfl; (with_reducible repeat (first | refine blk_drewN ?_ _ | refine blk_drew ?_ | refine blk_alloc ?_ _)); refine blk_put (cs := #[.int .i64 t400, .slice none 0 0, .slice none 0 0, .slice none 0 0]) ?_ 1 _ rfl; (with_reducible repeat (first | refine blk_drewN ?_ _ | refine blk_drew ?_ | refine blk_alloc ?_ _)); refine blk_put (cs := #[.int .i64 0, .slice none 0 0, .slice none 0 0, .slice none 0 0]) ?_ 0 _ rfl; exact bz_ BK412.out) NB412_0.out (by simp)); replace HK := sd_ (KeepBut.trans (by repeat (first | (with_reducible first | exact HK.out | apply KeepBut.set_ | apply keep_drewN | apply keep_drew | apply keep_alloc | refine keep_far ?_ GW399.out _ | refine keep_far ?_ GW412.out _) | exact HK.out)) hk (.inl rfl)); replace HB := sd_ (hb); replace HI0 := sd_ (hi); (try clear hb); (try clear hk); (try clear hi)))
    replace HO403 := sd_ (Kd.R_drew HO403.out)
    replace HO406 := sd_ (Kd.R_drew HO406.out)
    replace HO409 := sd_ (Kd.R_drew HO409.out)
    replace BK399 := sd_ (blk_drew BK399.out)
    replace BK412 := sd_ (blk_drew BK412.out)
    replace HI0 := sd_ (IsS96.drew HI0.out)
    replace HK := sd_ (keep_drew HK.out)
    replace HB := sd_ (below_drew1 HB.out)
    refine start_ (n := 14) (S := fun w' => w'.cell? ⟨gb412, 0, none⟩ = some (.int .i64 t400) ∧ w'.cell? ⟨gb412, 1, none⟩ = some (.slice Ao16 t401.length co16) ∧ w'.cell? ⟨gb412, 2, none⟩ = some (.slice Ao17 t404.length co17) ∧ w'.cell? ⟨gb412, 3, none⟩ = some (.slice Ao18 t407.length co18)) (ds := [13]) #[false, false, false, false, false, false, false, false, false, false, false, false, false, false] (by kernel_rfl) rfl rfl ⟨(blk_cell BK412.out 0).trans rfl, (blk_cell BK412.out 1).trans rfl, (blk_cell BK412.out 2).trans rfl, (blk_cell BK412.out 3).trans rfl⟩ (fun hHeld => ?_); refine with_tabW spec_dAnySystem.tab4 spec_dAnySystem.bits4 (fun HT_ HW_ => ?_)
    generalize w19.drew = w20 at HO403 HO406 HO409 BK399 BK412 HI0 HK HB hHeld ⊢
    refine pure_ (i := 0) (N := some 11) (v := ?_) (a' := ?_) #[true, false, false, false, false, false, false, false, false, false, false, false, false, false] rfl rfl (any_of HT_.out (by kernel_rfl)) (fun _ _ _ h => h) (Or.inl ⟨by rfl, ?_⟩) ?_ ?_
    rotate_left
    ·intro w'
     go_simp
     with_reducible rfl
    rotate_left
    ·simp only [Act.put, List.setIfInBounds_toArray, List.set_cons_zero, List.set_cons_succ, i64_w, i32_w]
     rfl
    refine pure_ (i := 2) (N := some 13) (v := ?_) (a' := ?_) #[true, false, true, false, false, false, false, false, false, false, false, false, false, false] rfl rfl (any_of HT_.out (by kernel_rfl)) (fun _ _ _ h => h) (Or.inl ⟨by rfl, ?_⟩) ?_ ?_
    rotate_left
    ·intro w'
     go_simp
     with_reducible rfl
    rotate_left
    ·simp only [Act.put, List.setIfInBounds_toArray, List.set_cons_zero, List.set_cons_succ, i64_w, i32_w]
     rfl
    refine pure_ (i := 3) (N := some 14) (v := ?_) (a' := ?_) #[true, false, true, true, false, false, false, false, false, false, false, false, false, false] rfl rfl (any_of HT_.out (by kernel_rfl)) (fun _ _ _ h => h) (Or.inl ⟨by rfl, ?_⟩) ?_ ?_
    rotate_left
    ·intro w'
     go_simp
     with_reducible rfl
    rotate_left
    ·simp only [Act.put, List.setIfInBounds_toArray, List.set_cons_zero, List.set_cons_succ, i64_w, i32_w]
     rfl
    refine pure_ (i := 7) (N := some 18) (v := ?_) (a' := ?_) #[true, false, true, true, false, false, false, true, false, false, false, false, false, false] rfl rfl (any_of HT_.out (by kernel_rfl)) (fun _ _ _ h => h) (Or.inl ⟨by rfl, ?_⟩) ?_ ?_
    rotate_left
    ·intro w'
     go_simp
     with_reducible rfl
    rotate_left
    ·simp only [Act.put, List.setIfInBounds_toArray, List.set_cons_zero, List.set_cons_succ, i64_w, i32_w]
     rfl
    refine pure_ (i := 8) (N := some 19) (v := ?_) (a' := ?_) #[true, false, true, true, false, false, false, true, true, false, false, false, false, false] rfl rfl (any_of HT_.out (by kernel_rfl)) (fun _ _ _ h => h) (Or.inl ⟨by rfl, ?_⟩) ?_ ?_
    rotate_left
    ·intro w'
     go_simp
     with_reducible rfl
    rotate_left
    ·simp only [Act.put, List.setIfInBounds_toArray, List.set_cons_zero, List.set_cons_succ, i64_w, i32_w]
     rfl
    refine take_ (i := 1) (N := some 12) (v := ?_) (a' := ?_) #[true, true, true, true, false, false, false, true, true, false, false, false, false, false] rfl rfl (take_ofW HT_.out HW_.out (by kernel_rfl)) (fun _ _ _ h => h) (Or.inl ⟨by rfl, ?_⟩) hHeld ?_ ?_
    rotate_left
    ·rintro w' ⟨s0, s1, s2, s3⟩
     go_simp
     with_reducible rfl
    rotate_left
    ·simp only [Act.put, List.setIfInBounds_toArray, List.set_cons_zero, List.set_cons_succ, i64_w, i32_w]
     rfl
    refine take_ (i := 4) (N := some 15) (v := ?_) (a' := ?_) #[true, true, true, true, true, false, false, true, true, false, false, false, false, false] rfl rfl (take_ofW HT_.out HW_.out (by kernel_rfl)) (fun _ _ _ h => h) (Or.inl ⟨by rfl, ?_⟩) hHeld ?_ ?_
    rotate_left
    ·rintro w' ⟨s0, s1, s2, s3⟩
     go_simp
     with_reducible rfl
    rotate_left
    ·simp only [Act.put, List.setIfInBounds_toArray, List.set_cons_zero, List.set_cons_succ, i64_w, i32_w]
     rfl
    refine pure_ (i := 5) (N := some 16) (v := ?_) (a' := ?_) #[true, true, true, true, true, true, false, true, true, false, false, false, false, false] rfl rfl (any_of HT_.out (by kernel_rfl)) (fun _ _ _ h => h) (Or.inl ⟨by rfl, ?_⟩) ?_ ?_
    rotate_left
    ·intro w'
     go_simp
     with_reducible rfl
    rotate_left
    ·simp only [Act.put, List.setIfInBounds_toArray, List.set_cons_zero, List.set_cons_succ, i64_w, i32_w]
     rfl
    refine take_ (i := 9) (N := some 20) (v := ?_) (a' := ?_) #[true, true, true, true, true, true, false, true, true, true, false, false, false, false] rfl rfl (take_ofW HT_.out HW_.out (by kernel_rfl)) (fun _ _ _ h => h) (Or.inl ⟨by rfl, ?_⟩) hHeld ?_ ?_
    rotate_left
    ·rintro w' ⟨s0, s1, s2, s3⟩
     go_simp
     with_reducible rfl
    rotate_left
    ·simp only [Act.put, List.setIfInBounds_toArray, List.set_cons_zero, List.set_cons_succ, i64_w, i32_w]
     rfl
    refine pure_ (i := 10) (N := some 21) (v := ?_) (a' := ?_) #[true, true, true, true, true, true, false, true, true, true, true, false, false, false] rfl rfl (any_of HT_.out (by kernel_rfl)) (fun _ _ _ h => h) (Or.inl ⟨by rfl, ?_⟩) ?_ ?_
    rotate_left
    ·intro w'
     go_simp
     with_reducible rfl
    rotate_left
    ·simp only [Act.put, List.setIfInBounds_toArray, List.set_cons_zero, List.set_cons_succ, i64_w, i32_w]
     rfl
    refine one_ (i := 6) (N := some 17) #[true, true, true, true, true, true, true, true, true, true, true, false, false, false] rfl rfl (one_of HT_.out (by kernel_rfl)) (by decide) (fun K hK => ?_)
    refine goes_ Try.func112 (by kernel_rfl) rfl #[.pointer (some ⟨g, 0, none⟩), .int .i64 (t401.length : Int)] (by rfl) rfl rfl la_ ?_
    with_reducible refine (spec_l1Below.calls g s0_0 t414 t415 (t401.length : Int) t416 t417 t418 w0 _ ?side1 ?side2 A5.out).mono ?_
    (case side1 => repeat (first | (with_reducible first | exact HI0.out | apply IsS96.alloc | apply IsS96.drewN | apply IsS96.drew | apply IsS96.set_1 | apply IsS96.set_2 | refine IsS96.far ?_ NB0_399.out _ | refine IsS96.far ?_ NB0_412.out _) | exact HI0.out))
    (case side2 => repeat (first | (with_reducible first | exact HB.out | apply below_alloc | apply pw_below_drewN | apply below_drew1 | refine below_set ?_ (IsS96.ge HI0.out) | refine below_set ?_ GE399.out | refine below_set ?_ GE412.out) | exact HB.out))
    rintro e w21 ⟨rfl, hi, hb, hk⟩
    refine ⟨_, rfl, ?_⟩
    replace BK399 := sd_ (KeepBut.blk hk (g' := gb399) (o := .cells #[.int .i64 0, .slice none 0 0, .slice none 0 0, .slice none 0 0] 27 (0, 0)) (bz_ BK399.out) NB399_0.out (by simp))
    replace HO403 := sd_ (Kd.R_mono (Kd.R_keep (IsS96.apart (show IsS96 w0 _ g s0_0 t414 t415 from by repeat (first | (with_reducible first | exact HI0.out | apply IsS96.alloc | apply IsS96.drewN | apply IsS96.drew | apply IsS96.set_1 | apply IsS96.set_2 | refine IsS96.far ?_ NB0_399.out _ | refine IsS96.far ?_ NB0_412.out _) | exact HI0.out)) (ro_ HO403.out) (by decide)) hk (fun _ h => h.2)) (fun _ h => h.1))
    replace HO406 := sd_ (Kd.R_mono (Kd.R_keep (IsS96.apart (show IsS96 w0 _ g s0_0 t414 t415 from by repeat (first | (with_reducible first | exact HI0.out | apply IsS96.alloc | apply IsS96.drewN | apply IsS96.drew | apply IsS96.set_1 | apply IsS96.set_2 | refine IsS96.far ?_ NB0_399.out _ | refine IsS96.far ?_ NB0_412.out _) | exact HI0.out)) (ro_ HO406.out) (by decide)) hk (fun _ h => h.2)) (fun _ h => h.1))
    replace HO409 := sd_ (Kd.R_mono (Kd.R_keep (IsS96.apart (show IsS96 w0 _ g s0_0 t414 t415 from by repeat (first | (with_reducible first | exact HI0.out | apply IsS96.alloc | apply IsS96.drewN | apply IsS96.drew | apply IsS96.set_1 | apply IsS96.set_2 | refine IsS96.far ?_ NB0_399.out _ | refine IsS96.far ?_ NB0_412.out _) | exact HI0.out)) (ro_ HO409.out) (by decide)) hk (fun _ h => h.2)) (fun _ h => h.1))
    replace BK412 := sd_ (KeepBut.blk hk (g' := gb412) (o := .cells #[.int .i64 t400, .slice Ao16 t401.length co16, .slice Ao17 t404.length co17, .slice Ao18 t407.length co18] 27 (0, 0)) (bz_ BK412.out) NB412_0.out (by simp))
    replace HK := sd_ (KeepBut.trans (by repeat (first | (with_reducible first | exact HK.out | apply KeepBut.set_ | apply keep_drewN | apply keep_drew | apply keep_alloc | refine keep_far ?_ GW399.out _ | refine keep_far ?_ GW412.out _) | exact HK.out)) hk (.inl rfl))
    replace HB := sd_ (hb)
    replace HI0 := sd_ (hi)
    (try clear hb)
    (try clear hb2)
    (try clear hk)
    (try clear hi)
    refine hK.out _ _ ⟨(blk_cell BK412.out 0).trans rfl, (blk_cell BK412.out 1).trans rfl, (blk_cell BK412.out 2).trans rfl, (blk_cell BK412.out 3).trans rfl⟩ (fun hHeld => ?_)
    clear hK K
    refine norm_ (a' := ?_) ?_ ?_
    rotate_left
    ·show Act.put _ (some 17) _ = _
     simp only [Act.put, List.setIfInBounds_toArray, List.set_cons_zero, List.set_cons_succ, i64_w, i32_w]
     rfl
    refine one_ (i := 11) (N := some 22) #[true, true, true, true, true, true, true, true, true, true, true, true, false, false] rfl rfl (one_of HT_.out (by kernel_rfl)) (by decide) (fun K hK => ?_)
    refine goes_ Try.func112 (by kernel_rfl) rfl #[.pointer (some ⟨g, 0, none⟩), .int .i64 (wrap64 (t400 + 1))] (by rfl) rfl rfl la_ ?_
    with_reducible refine (spec_l1Below.calls g s0_0 t417 t418 (wrap64 (t400 + 1)) t419 t420 t421 w0 _ ?side1 ?side2 A6.out).mono ?_
    (case side1 => repeat (first | (with_reducible first | exact HI0.out | apply IsS96.alloc | apply IsS96.drewN | apply IsS96.drew | apply IsS96.set_1 | apply IsS96.set_2 | refine IsS96.far ?_ NB0_399.out _ | refine IsS96.far ?_ NB0_412.out _) | exact HI0.out))
    (case side2 => repeat (first | (with_reducible first | exact HB.out | apply below_alloc | apply pw_below_drewN | apply below_drew1 | refine below_set ?_ (IsS96.ge HI0.out) | refine below_set ?_ GE399.out | refine below_set ?_ GE412.out) | exact HB.out))
    rintro e w22 ⟨rfl, hi, hb, hk⟩
    refine ⟨_, rfl, ?_⟩
    replace BK399 := sd_ (KeepBut.blk hk (g' := gb399) (o := .cells #[.int .i64 0, .slice none 0 0, .slice none 0 0, .slice none 0 0] 27 (0, 0)) (bz_ BK399.out) NB399_0.out (by simp))
    replace HO403 := sd_ (Kd.R_mono (Kd.R_keep (IsS96.apart (show IsS96 w0 _ g s0_0 t417 t418 from by repeat (first | (with_reducible first | exact HI0.out | apply IsS96.alloc | apply IsS96.drewN | apply IsS96.drew | apply IsS96.set_1 | apply IsS96.set_2 | refine IsS96.far ?_ NB0_399.out _ | refine IsS96.far ?_ NB0_412.out _) | exact HI0.out)) (ro_ HO403.out) (by decide)) hk (fun _ h => h.2)) (fun _ h => h.1))
    replace HO406 := sd_ (Kd.R_mono (Kd.R_keep (IsS96.apart (show IsS96 w0 _ g s0_0 t417 t418 from by repeat (first | (with_reducible first | exact HI0.out | apply IsS96.alloc | apply IsS96.drewN | apply IsS96.drew | apply IsS96.set_1 | apply IsS96.set_2 | refine IsS96.far ?_ NB0_399.out _ | refine IsS96.far ?_ NB0_412.out _) | exact HI0.out)) (ro_ HO406.out) (by decide)) hk (fun _ h => h.2)) (fun _ h => h.1))
    replace HO409 := sd_ (Kd.R_mono (Kd.R_keep (IsS96.apart (show IsS96 w0 _ g s0_0 t417 t418 from by repeat (first | (with_reducible first | exact HI0.out | apply IsS96.alloc | apply IsS96.drewN | apply IsS96.drew | apply IsS96.set_1 | apply IsS96.set_2 | refine IsS96.far ?_ NB0_399.out _ | refine IsS96.far ?_ NB0_412.out _) | exact HI0.out)) (ro_ HO409.out) (by decide)) hk (fun _ h => h.2)) (fun _ h => h.1))
    replace BK412 := sd_ (KeepBut.blk hk (g' := gb412) (o := .cells #[.int .i64 t400, .slice Ao16 t401.length co16, .slice Ao17 t404.length co17, .slice Ao18 t407.length co18] 27 (0, 0)) (bz_ BK412.out) NB412_0.out (by simp))
    replace HK := sd_ (KeepBut.trans (by repeat (first | (with_reducible first | exact HK.out | apply KeepBut.set_ | apply keep_drewN | apply keep_drew | apply keep_alloc | refine keep_far ?_ GW399.out _ | refine keep_far ?_ GW412.out _) | exact HK.out)) hk (.inl rfl))
    replace HB := sd_ (hb)
    replace HI0 := sd_ (hi)
    (try clear hb)
    (try clear hb2)
    (try clear hk)
    (try clear hi)
    have p9 : 0 ≤ (t416 : Int) := dt_
    have q9 : (t416 : Int) < ((t401.length : Int) : Int) := dt_
    obtain ⟨go9, co9, eo9, gb9, gl9, cl9, HG9⟩ := Kd.R_form HO403.out (by omega)
    (first | cases eo9 | (injection eo9 with ea_ en_ ec_; (first | subst ea_ | (injection ea_ with ea_; subst ea_)); subst ec_; clear en_))
    have GB9 := sd_ gb9
    have GG9 := sd_ HG9
    clear gb9 gl9 HG9
    obtain ⟨hx9_0, hf9_0⟩ := Kd.R_celln 0 HO403.out (t416 : Int) p9 q9
    replace p9 := eq_true p9
    replace q9 := eq_true q9
    have HN0_go9 := sd_ (show g ≠ go9 from by have h_ := IsS96.own_ne HI0.out HO403.out (by decide); intro e_; exact h_ (by rw [e_]; rfl))
    have HP23 := Kd.R_putn HO403.out (t416 : Int) t419
    rw [← Ny422.out] at HP23
    have HQ23 := sd_ HP23
    clear HP23
    refine hK.out _ _ ⟨(blk_cell BK412.out 0).trans rfl, (blk_cell BK412.out 1).trans rfl, (blk_cell BK412.out 2).trans rfl, (blk_cell BK412.out 3).trans rfl⟩ (fun hHeld => ?_)
    clear hK K
    refine norm_ (a' := ?_) ?_ ?_
    rotate_left
    ·show Act.put _ (some 22) _ = _
     simp only [Act.put, List.setIfInBounds_toArray, List.set_cons_zero, List.set_cons_succ, i64_w, i32_w]
     rfl
    refine pure_ (i := 12) (N := some 23) (v := ?_) (a' := ?_) #[true, true, true, true, true, true, true, true, true, true, true, true, true, false] rfl rfl (any_of HT_.out (by kernel_rfl)) (fun _ _ _ h => h) (Or.inl ⟨by rfl, ?_⟩) ?_ ?_
    rotate_left
    ·intro w'
     go_simp
     with_reducible rfl
    rotate_left
    ·simp only [Act.put, List.setIfInBounds_toArray, List.set_cons_zero, List.set_cons_succ, i64_w, i32_w]
     rfl
    refine last_ (i := 13) (N := none) #[true, true, true, true, true, true, true, true, true, true, true, true, true, true] rfl rfl (one_of HT_.out (by kernel_rfl)) (by decide) (fun K hK => ?_)
    refine skip_ (w1 := ?_) (by rfl) rfl ?_ ?_
    rotate_left
    ·go_simp
     rfl
    refine hK.out _ _ ?_
    clear hK K
    refine done_ (done_of HT_.out (by kernel_rfl)) ?_
    have n0_ : Aside0 (Kd.R (Kd.int .i64) 3 (w22.setCell ⟨go9, (t416 : Int).toNat, none⟩ (.int .i64 t419)) w.heap.size (fun k_ => some k_ ≠ (.slice Ao17 t404.length co17 : Value).ownBlock) (.slice (some ⟨go9, 0, none⟩) t401.length co16) y422) := ⟨by (with_reducible repeat (first | apply Kd.R_alloc | apply Kd.R_drewN | apply Kd.R_drew)); exact HQ23.out⟩
    have n1_ : Aside0 (Kd.R (Kd.int .i64) 3 (w22.setCell ⟨go9, (t416 : Int).toNat, none⟩ (.int .i64 t419)) w.heap.size (fun k_ => some k_ ≠ (.slice (some ⟨go9, 0, none⟩) t401.length co16 : Value).ownBlock) (.slice Ao17 t404.length co17) t404) := ⟨by (with_reducible repeat (first | apply Kd.R_alloc | apply Kd.R_drewN | apply Kd.R_drew)); exact Kd.R_mono (Kd.R_far (p := ⟨go9, (t416 : Int).toNat, none⟩) (Kd.R_mono HO406.out (fun k_ hk => (⟨hk, fun e_ => hk (by rw [e_]; rfl)⟩ : _ ∧ k_ ≠ go9))) (fun _ hk => hk.2) (.int .i64 t419)) (fun _ hk => hk.1)⟩
    have n2_ : Aside0 (Kd.R Kd.bool 4 (w22.setCell ⟨go9, (t416 : Int).toNat, none⟩ (.int .i64 t419)) w.heap.size (fun _ => True) (.slice Ao18 t407.length co18) t407) := ⟨by (with_reducible repeat (first | apply Kd.R_alloc | apply Kd.R_drewN | apply Kd.R_drew)); exact Kd.R_mono (Kd.R_far (p := ⟨go9, (t416 : Int).toNat, none⟩) (Kd.R_types HO409.out GG9.out (by decide)) (fun _ hk => hk.2) (.int .i64 t419)) (fun _ hk => trivial)⟩
    have n3_ : Aside0 ((w22.setCell ⟨go9, (t416 : Int).toNat, none⟩ (.int .i64 t419)).heap[gb399]? = some (.cells #[.int .i64 0, .slice none 0 0, .slice none 0 0, .slice none 0 0] 27 (0, 0))) := ⟨by (with_reducible repeat (first | refine blk_drewN ?_ _ | refine blk_drew ?_ | refine blk_alloc ?_ _)); refine blk_far ?_ (by have h_ := Kd.R_ne HO403.out BK399.out (by decide); intro e_; exact h_ (by rw [e_]; rfl)) _; exact bz_ BK399.out⟩
    have n4_ : Aside0 ((w22.setCell ⟨go9, (t416 : Int).toNat, none⟩ (.int .i64 t419)).heap[gb412]? = some (.cells #[.int .i64 t400, .slice (some ⟨go9, 0, none⟩) t401.length co16, .slice Ao17 t404.length co17, .slice Ao18 t407.length co18] 27 (0, 0))) := ⟨by (with_reducible repeat (first | refine blk_drewN ?_ _ | refine blk_drew ?_ | refine blk_alloc ?_ _)); refine blk_far ?_ (by have h_ := Kd.R_ne HO403.out BK412.out (by decide); intro e_; exact h_ (by rw [e_]; rfl)) _; exact bz_ BK412.out⟩
    have n5_ : Aside0 (IsS96 w0 (w22.setCell ⟨go9, (t416 : Int).toNat, none⟩ (.int .i64 t419)) g s0_0 t420 t421) := ⟨by repeat (first | (with_reducible first | exact HI0.out | apply IsS96.alloc | apply IsS96.drewN | apply IsS96.drew | apply IsS96.set_1 | apply IsS96.set_2 | refine IsS96.far ?_ HN0_go9.out _ | refine IsS96.far ?_ NB0_399.out _ | refine IsS96.far ?_ NB0_412.out _) | exact HI0.out)⟩
    have n6_ : Aside0 (KeepBut w (w22.setCell ⟨go9, (t416 : Int).toNat, none⟩ (.int .i64 t419)) g none) := ⟨by repeat (first | (with_reducible first | exact HK.out | apply KeepBut.set_ | apply keep_drewN | apply keep_drew | apply keep_alloc | refine keep_far ?_ GB9.out _ | refine keep_far ?_ GW399.out _ | refine keep_far ?_ GW412.out _) | exact HK.out)⟩
    have n7_ : Aside0 (Below w0.heap.size w0 (w22.setCell ⟨go9, (t416 : Int).toNat, none⟩ (.int .i64 t419))) := ⟨by repeat (first | (with_reducible first | exact HB.out | apply below_alloc | apply pw_below_drewN | apply below_drew1 | refine below_set ?_ (Nat.le_trans HL.out GB9.out) | refine below_set ?_ (IsS96.ge HI0.out) | refine below_set ?_ GE399.out | refine below_set ?_ GE412.out) | exact HB.out)⟩
    (try clear HO403)
    (try clear HO406)
    (try clear HO409)
    (try clear BK399)
    (try clear BK412)
    (try clear HI0)
    (try clear HK)
    (try clear HB)
    generalize (w22.setCell ⟨go9, (t416 : Int).toNat, none⟩ (.int .i64 t419)) = w24 at n0_ n1_ n2_ n3_ n4_ n5_ n6_ n7_ ⊢
    have HO403 := n0_
    have HO406 := n1_
    have HO409 := n2_
    have BK399 := n3_
    have BK412 := n4_
    have HI0 := n5_
    have HK := n6_
    have HB := n7_
    clear n0_ n1_ n2_ n3_ n4_ n5_ n6_ n7_
    obtain ⟨hcz25_0, hcz25_1, hcz25_2, hcz25_3, hfz25_0, hfz25_1, hfz25_2, hfz25_3⟩ := bf4_ BK412.out
    have hnb26 := NB399_0.out
    have hnc26 := NB0_399.out
    obtain ⟨hcz27_0, hcz27_1, hcz27_2, hcz27_3, hfz27_0, hfz27_1, hfz27_2, hfz27_3⟩ := bf4_ BK399.out
    try go_wp2
    refine bodyPost_ret (results_cell_row rfl _ _ gb399 27 #[.int .i64 t400, .slice (some ⟨go9, 0, none⟩) t401.length co16, .slice Ao17 t404.length co17, .slice Ao18 t407.length co18] (0, 0) _ rfl (by (with_reducible repeat (first | refine blk_drewN ?_ _ | refine blk_drew ?_ | refine blk_alloc ?_ _)); refine blk_put (cs := #[.int .i64 t400, .slice (some ⟨go9, 0, none⟩) t401.length co16, .slice Ao17 t404.length co17, .slice none 0 0]) ?_ 3 _ rfl; (with_reducible repeat (first | refine blk_drewN ?_ _ | refine blk_drew ?_ | refine blk_alloc ?_ _)); refine blk_put (cs := #[.int .i64 t400, .slice (some ⟨go9, 0, none⟩) t401.length co16, .slice none 0 0, .slice none 0 0]) ?_ 2 _ rfl; (with_reducible repeat (first | refine blk_drewN ?_ _ | refine blk_drew ?_ | refine blk_alloc ?_ _)); refine blk_put (cs := #[.int .i64 t400, .slice none 0 0, .slice none 0 0, .slice none 0 0]) ?_ 1 _ rfl; (with_reducible repeat (first | refine blk_drewN ?_ _ | refine blk_drew ?_ | refine blk_alloc ?_ _)); refine blk_put (cs := #[.int .i64 0, .slice none 0 0, .slice none 0 0, .slice none 0 0]) ?_ 0 _ rfl; exact bz_ BK399.out) Try.underlying27 rfl (by kernel_rfl)) rfl ?_
    exact ⟨_, _, _, an_, by (with_reducible repeat (first | apply Kd.R_alloc | apply Kd.R_drewN | apply Kd.R_drew)); exact rf_ HO403.out BK399.out, by (with_reducible repeat (first | apply Kd.R_alloc | apply Kd.R_drewN | apply Kd.R_drew)); exact rf_ HO406.out BK399.out, by (with_reducible repeat (first | apply Kd.R_alloc | apply Kd.R_drewN | apply Kd.R_drew)); exact Kd.R_mono (Kd.R_far (p := ⟨gb399, 3, none⟩) (Kd.R_far (p := ⟨gb399, 2, none⟩) (Kd.R_far (p := ⟨gb399, 1, none⟩) (Kd.R_far (p := ⟨gb399, 0, none⟩) (Kd.R_types HO409.out BK399.out (by decide)) (fun _ hk => hk.2) (.int .i64 t400)) (fun _ hk => hk.2) (.slice (some ⟨go9, 0, none⟩) t401.length co16)) (fun _ hk => hk.2) (.slice Ao17 t404.length co17)) (fun _ hk => hk.2) (.slice Ao18 t407.length co18)) (fun _ hk => trivial), by repeat (first | (with_reducible first | exact HI0.out | apply IsS96.alloc | apply IsS96.drewN | apply IsS96.drew | apply IsS96.set_1 | apply IsS96.set_2 | refine IsS96.far ?_ NB0_399.out _ | refine IsS96.far ?_ NB0_412.out _) | exact HI0.out), by repeat (first | (with_reducible first | exact HB.out | apply below_alloc | apply pw_below_drewN | apply below_drew1 | refine below_set ?_ (IsS96.ge HI0.out) | refine below_set ?_ GE399.out | refine below_set ?_ GE412.out) | exact HB.out), by repeat (first | (with_reducible first | exact HK.out | apply KeepBut.set_ | apply keep_drewN | apply keep_drew | apply keep_alloc | refine keep_far ?_ GW399.out _ | refine keep_far ?_ GW412.out _) | exact HK.out)⟩
   rw [if_neg c8] at H
   exact absurd H (by simp)
  rw [if_neg c7] at H
  exact absurd H (by simp)
 rw [if_neg c4] at H
 have c4b0 : (t413 == 0) = false := beq_eq_false_iff_ne.mpr c4
 have c4b1 : (t413 != 0) = true := bne_iff_ne.mpr c4
 by_cases c28 : t413 = 1
 ·rw [if_pos c28] at H
  have c28b0 : (t413 == 1) = true := beq_iff_eq.mpr c28
  have c28b1 : (t413 != 1) = false := bne_eq_false_iff_eq.mpr c28
  clear c28
  replace H := Option.bind_eq_some_iff.mp H
  obtain ⟨⟨t423, t424, t425⟩, A290, H⟩ := H
  try dsimp only at H
  have A29 := sd_ A290
  clear A290
  replace H := Option.bind_eq_some_iff.mp H
  obtain ⟨⟨t426, t427, t428⟩, A300, H⟩ := H
  try dsimp only at H
  have A30 := sd_ A300
  clear A300
  by_cases c31 : 0 ≤ t423
  ·rw [if_pos c31] at H
   have c31b0 : decide (0 ≤ t423) = true := decide_eq_true c31
   clear c31
   by_cases c32 : t423 < (t404.length : Int)
   ·rw [if_pos c32] at H
    have c32b0 : decide (t423 < (t404.length : Int)) = true := decide_eq_true c32
    clear c32
    obtain ⟨y429, hy429⟩ : ∃ y_ : List Int, y_ = (t404.set (t423 : Int).toNat t426) := ⟨_, rfl⟩
    replace H : (some (t400, t401, y429, t407, t427, t428)) = some (r1, r2, r3, r4, r5, r6) := by first | (rw [hy429]; with_reducible exact H) | (have H2_ := (Option.bind_some _ _).symm.trans H; rw [hy429]; with_reducible exact H2_) | (have H2_ := (Option.bind_some _ _).symm.trans H; with_reducible exact H2_) | with_reducible exact H | (rw [hy429]; exact H) | exact H
    have Ny429 := sd_ hy429
    clear hy429
    simp only [Option.some.injEq, Prod.mk.injEq] at H
    obtain ⟨rfl, rfl, rfl, rfl, rfl, rfl⟩ := H
    go_enter Try.func96, Try.ntmps96
    try go_wp2_with (first | ((with_reducible refine gate_dst (N := 2) rfl ?_); refine bx_ (N := 2) (cs := #[.int .i64 0, .slice none 0 0, .slice none 0 0, .slice none 0 0]) (t := 27) ?_; intro gb399 hg w34 hbox hb; replace HB := sd_ (below_step (by repeat (first | (with_reducible first | exact HB.out | apply below_alloc | apply pw_below_drewN | apply below_drew1 | refine below_set ?_ (IsS96.ge HI0.out)) | exact HB.out)) hb); have BK399 := sd_ (hbox); have GW399 := sd_ ((by rw [hg]; exact (keep_size (w := w) (g := g) (row := none) (by repeat (first | (with_reducible first | exact HK.out | apply KeepBut.set_ | apply keep_drewN | apply keep_drew | apply keep_alloc) | exact HK.out))) : w.heap.size ≤ gb399)); have GE399 := sd_ ((Nat.le_trans HW0.out (by rw [hg]; exact (keep_size (w := w) (g := g) (row := none) (by repeat (first | (with_reducible first | exact HK.out | apply KeepBut.set_ | apply keep_drewN | apply keep_drew | apply keep_alloc) | exact HK.out))) : w.heap.size ≤ gb399) : w0.heap.size ≤ gb399)); replace HK := sd_ (KeepBut.trans (by repeat (first | (with_reducible first | exact HK.out | apply KeepBut.set_ | apply keep_drewN | apply keep_drew | apply keep_alloc) | exact HK.out)) (KeepBut.of_below hb g none) (.inl rfl)); have NB0_399 := sd_ ((by rw [hg]; exact Nat.ne_of_lt (IsS96.lt (show IsS96 w0 _ g s0_0 s0_1 s0_2 from by repeat (first | (with_reducible first | exact HI0.out | apply IsS96.alloc | apply IsS96.drewN | apply IsS96.drew | apply IsS96.set_1 | apply IsS96.set_2) | exact HI0.out))) : g ≠ gb399)); have NB399_0 := sd_ ((by rw [hg]; exact Nat.ne_of_gt (IsS96.lt (show IsS96 w0 _ g s0_0 s0_1 s0_2 from by repeat (first | (with_reducible first | exact HI0.out | apply IsS96.alloc | apply IsS96.drewN | apply IsS96.drew | apply IsS96.set_1 | apply IsS96.set_2) | exact HI0.out))) : gb399 ≠ g)); replace HI0 := sd_ (IsS96.below (by repeat (first | (with_reducible first | exact HI0.out | apply IsS96.alloc | apply IsS96.drewN | apply IsS96.drew | apply IsS96.set_1 | apply IsS96.set_2) | exact HI0.out)) hb); clear hb hbox hg) | ((with_reducible refine gate_callee (f := 100) rfl ?_); refine goesL_ (some 6) rfl rfl Try.func100 (by kernel_rfl) rfl #[.pointer (some ⟨g, 0, none⟩)] rfl la_ ?_; (with_reducible refine (spec_dSystem.calls k g s0_0 s0_1 s0_2 t400 t401 t404 t407 t410 t411 w0 _ ?side1 ?side2 A2.out).mono ?_); (case side1 => repeat (first | (with_reducible first | exact HI0.out | apply IsS96.alloc | apply IsS96.drewN | apply IsS96.drew | apply IsS96.set_1 | apply IsS96.set_2 | refine IsS96.far ?_ NB0_399.out _) | exact HI0.out)); (case side2 => repeat (first | (with_reducible first | exact HB.out | apply below_alloc | apply pw_below_drewN | apply below_drew1 | refine below_set ?_ (IsS96.ge HI0.out) | refine below_set ?_ GE399.out) | exact HB.out)); rintro e w35 ⟨v402, v405, v408, rfl, ho0, ho1, ho2, hi, hb, hk⟩; refine ⟨_, rfl, ?_⟩; replace BK399 := sd_ (KeepBut.blk hk (g' := gb399) (o := .cells #[.int .i64 0, .slice none 0 0, .slice none 0 0, .slice none 0 0] 27 (0, 0)) (bz_ BK399.out) NB399_0.out (by simp)); have HO403 := sd_ (Kd.R_lower ho0 (keep_size (w := w) (g := g) (row := none) (by repeat (first | (with_reducible first | exact HK.out | apply KeepBut.set_ | apply keep_drewN | apply keep_drew | apply keep_alloc | refine keep_far ?_ GW399.out _) | exact HK.out)))); have HO406 := sd_ (Kd.R_lower ho1 (keep_size (w := w) (g := g) (row := none) (by repeat (first | (with_reducible first | exact HK.out | apply KeepBut.set_ | apply keep_drewN | apply keep_drew | apply keep_alloc | refine keep_far ?_ GW399.out _) | exact HK.out)))); have HO409 := sd_ (Kd.R_lower ho2 (keep_size (w := w) (g := g) (row := none) (by repeat (first | (with_reducible first | exact HK.out | apply KeepBut.set_ | apply keep_drewN | apply keep_drew | apply keep_alloc | refine keep_far ?_ GW399.out _) | exact HK.out)))); replace HK := sd_ (KeepBut.trans (by repeat (first | (with_reducible first | exact HK.out | apply KeepBut.set_ | apply keep_drewN | apply keep_drew | apply keep_alloc | refine keep_far ?_ GW399.out _) | exact HK.out)) hk (.inl rfl)); replace HB := sd_ (hb); replace HI0 := sd_ (hi); (try clear hb); (try clear hk); (try clear hi); (try clear ho0); (try clear ho1); (try clear ho2)) | ((with_reducible refine gate_dst (N := 3) rfl ?_); refine bx_ (N := 3) (cs := #[.int .i64 0, .slice none 0 0, .slice none 0 0, .slice none 0 0]) (t := 27) ?_; intro gb412 hg w36 hbox hb; replace HO403 := sd_ (Kd.R_below (ro_ HO403.out) hb); replace HO406 := sd_ (Kd.R_below (ro_ HO406.out) hb); replace HO409 := sd_ (Kd.R_below (ro_ HO409.out) hb); replace HB := sd_ (below_step (by repeat (first | (with_reducible first | exact HB.out | apply below_alloc | apply pw_below_drewN | apply below_drew1 | refine below_set ?_ (IsS96.ge HI0.out) | refine below_set ?_ GE399.out) | exact HB.out)) hb); have BK412 := sd_ (hbox); have GW412 := sd_ ((by rw [hg]; exact (keep_size (w := w) (g := g) (row := none) (by repeat (first | (with_reducible first | exact HK.out | apply KeepBut.set_ | apply keep_drewN | apply keep_drew | apply keep_alloc | refine keep_far ?_ GW399.out _) | exact HK.out))) : w.heap.size ≤ gb412)); have GE412 := sd_ ((Nat.le_trans HW0.out (by rw [hg]; exact (keep_size (w := w) (g := g) (row := none) (by repeat (first | (with_reducible first | exact HK.out | apply KeepBut.set_ | apply keep_drewN | apply keep_drew | apply keep_alloc | refine keep_far ?_ GW399.out _) | exact HK.out))) : w.heap.size ≤ gb412) : w0.heap.size ≤ gb412)); replace HK := sd_ (KeepBut.trans (by repeat (first | (with_reducible first | exact HK.out | apply KeepBut.set_ | apply keep_drewN | apply keep_drew | apply keep_alloc | refine keep_far ?_ GW399.out _) | exact HK.out)) (KeepBut.of_below hb g none) (.inl rfl)); have NB399_412 := sd_ (nl_ hg (bl_ BK399.out)); have NB412_399 := sd_ (ng_ hg (bl_ BK399.out)); replace BK399 := sd_ (bb_ BK399.out hb); have NB0_412 := sd_ ((by rw [hg]; exact Nat.ne_of_lt (IsS96.lt (show IsS96 w0 _ g s0_0 t410 t411 from by repeat (first | (with_reducible first | exact HI0.out | apply IsS96.alloc | apply IsS96.drewN | apply IsS96.drew | apply IsS96.set_1 | apply IsS96.set_2 | refine IsS96.far ?_ NB0_399.out _) | exact HI0.out))) : g ≠ gb412)); have NB412_0 := sd_ ((by rw [hg]; exact Nat.ne_of_gt (IsS96.lt (show IsS96 w0 _ g s0_0 t410 t411 from by repeat (first | (with_reducible first | exact HI0.out | apply IsS96.alloc | apply IsS96.drewN | apply IsS96.drew | apply IsS96.set_1 | apply IsS96.set_2 | refine IsS96.far ?_ NB0_399.out _) | exact HI0.out))) : gb412 ≠ g)); replace HI0 := sd_ (IsS96.below (by repeat (first | (with_reducible first | exact HI0.out | apply IsS96.alloc | apply IsS96.drewN | apply IsS96.drew | apply IsS96.set_1 | apply IsS96.set_2 | refine IsS96.far ?_ NB0_399.out _) | exact HI0.out)) hb); clear hb hbox hg; have hnb37 := NB412_399.out; have hnc37 := NB399_412.out; have hnb38 := NB412_0.out; have hnc38 := NB0_412.out; obtain ⟨hcz39_0, hcz39_1, hcz39_2, hcz39_3, hfz39_0, hfz39_1, hfz39_2, hfz39_3⟩ := bf4_ BK412.out; obtain ⟨Ao40, co40, eo40⟩ := Kd.R_slice HO403.out; subst eo40; obtain ⟨Ao41, co41, eo41⟩ := Kd.R_slice HO406.out; subst eo41; obtain ⟨Ao42, co42, eo42⟩ := Kd.R_slice HO409.out; subst eo42) | ((with_reducible refine gate_callee (f := 112) rfl ?_); refine goesL_ (some 8) rfl rfl Try.func112 (by kernel_rfl) rfl #[.pointer (some ⟨g, 0, none⟩), .int .i64 9] rfl la_ ?_; (with_reducible refine (spec_l1Below.calls g s0_0 t410 t411 9 t413 t414 t415 w0 _ ?side1 ?side2 A3.out).mono ?_); (case side1 => repeat (first | (with_reducible first | exact HI0.out | apply IsS96.alloc | apply IsS96.drewN | apply IsS96.drew | apply IsS96.set_1 | apply IsS96.set_2 | refine IsS96.far ?_ NB0_399.out _ | refine IsS96.far ?_ NB0_412.out _) | exact HI0.out)); (case side2 => repeat (first | (with_reducible first | exact HB.out | apply below_alloc | apply pw_below_drewN | apply below_drew1 | refine below_set ?_ (IsS96.ge HI0.out) | refine below_set ?_ GE399.out | refine below_set ?_ GE412.out) | exact HB.out)); rintro e w43 ⟨rfl, hi, hb, hk⟩; refine ⟨_, rfl, ?_⟩; replace BK399 := sd_ (KeepBut.blk hk (g' := gb399) (o := .cells #[.int .i64 0, .slice none 0 0, .slice none 0 0, .slice none 0 0] 27 (0, 0)) (by exact zf1_ BK399.out NB399_412.out) NB399_0.out (by simp)); replace HO403 := sd_ (Kd.R_mono (Kd.R_keep (IsS96.apart (show IsS96 w0 _ g s0_0 t410 t411 from by repeat (first | (with_reducible first | exact HI0.out | apply IsS96.alloc | apply IsS96.drewN | apply IsS96.drew | apply IsS96.set_1 | apply IsS96.set_2 | refine IsS96.far ?_ NB0_399.out _ | refine IsS96.far ?_ NB0_412.out _) | exact HI0.out)) (by (with_reducible repeat (first | apply Kd.R_alloc | apply Kd.R_drewN | apply Kd.R_drew)); exact (rf_ HO403.out BK412.out)) (by decide)) hk (fun _ h => h.2)) (fun _ h => h.1)); replace HO406 := sd_ (Kd.R_mono (Kd.R_keep (IsS96.apart (show IsS96 w0 _ g s0_0 t410 t411 from by repeat (first | (with_reducible first | exact HI0.out | apply IsS96.alloc | apply IsS96.drewN | apply IsS96.drew | apply IsS96.set_1 | apply IsS96.set_2 | refine IsS96.far ?_ NB0_399.out _ | refine IsS96.far ?_ NB0_412.out _) | exact HI0.out)) (by (with_reducible repeat (first | apply Kd.R_alloc | apply Kd.R_drewN | apply Kd.R_drew)); exact (rf_ HO406.out BK412.out)) (by decide)) hk (fun _ h => h.2)) (fun _ h => h.1)); replace HO409 := sd_ (Kd.R_mono (Kd.R_keep (IsS96.apart (show IsS96 w0 _ g s0_0 t410 t411 from by repeat (first | (with_reducible first | exact HI0.out | apply IsS96.alloc | apply IsS96.drewN | apply IsS96.drew | apply IsS96.set_1 | apply IsS96.set_2 | refine IsS96.far ?_ NB0_399.out _ | refine IsS96.far ?_ NB0_412.out _) | exact HI0.out)) (by (with_reducible repeat (first | apply Kd.R_alloc | apply Kd.R_drewN | apply Kd.R_drew)); exact (rf_ HO409.out BK412.out)) (by decide)) hk (fun _ h => h.2)) (fun _ h => h.1)); replace BK412 := sd_ (KeepBut.blk hk (g' := gb412) (o := .cells #[.int .i64 t400, .slice Ao40 t401.length co40, .slice Ao41 t404.length co41, .slice Ao42 t407.length co42] 27 (0, 0)) (by (with_reducible repeat (first | refine blk_drewN ?_ _ | refine blk_drew ?_ | refine blk_alloc ?_ _)); refine blk_put (cs := #[.int .i64 t400, .slice Ao40 t401.length co40, .slice Ao41 t404.length co41, .slice none 0 0]) ?_ 3 _ rfl; (with_reducible repeat (first | refine blk_drewN ?_ _ | refine blk_drew ?_ | refine blk_alloc ?_ _)); refine blk_put (cs := #[.int .i64 t400, .slice Ao40 t401.length co40, .slice none 0 0, .slice none 0 0]) ?_ 2 _ rfl; (with_reducible repeat (first | refine blk_drewN ?_ _ | refine blk_drew ?_ | refine blk_alloc ?_ _)); refine blk_put (cs := #[.int .i64 t400, .slice none 0 0, .slice none 0 0, .slice none 0 0]) ?_ 1 _ rfl; (with_reducible repeat (first | refine blk_drewN ?_ _ | refine blk_drew ?_ | refine blk_alloc ?_ _)); refine blk_put (cs := #[.int .i64 0, .slice none 0 0, .slice none 0 0, .slice none 0 0]) ?_ 0 _ rfl; exact bz_ BK412.out) NB412_0.out (by simp)); replace HK := sd_ (KeepBut.trans (by repeat (first | (with_reducible first | exact HK.out | apply KeepBut.set_ | apply keep_drewN | apply keep_drew | apply keep_alloc | refine keep_far ?_ GW399.out _ | refine keep_far ?_ GW412.out _) | exact HK.out)) hk (.inl rfl)); replace HB := sd_ (hb); replace HI0 := sd_ (hi); (try clear hb); (try clear hk); (try clear hi)))
    replace HO403 := sd_ (Kd.R_drew HO403.out)
    replace HO406 := sd_ (Kd.R_drew HO406.out)
    replace HO409 := sd_ (Kd.R_drew HO409.out)
    replace BK399 := sd_ (blk_drew BK399.out)
    replace BK412 := sd_ (blk_drew BK412.out)
    replace HI0 := sd_ (IsS96.drew HI0.out)
    replace HK := sd_ (keep_drew HK.out)
    replace HB := sd_ (below_drew1 HB.out)
    refine start_ (n := 13) (S := fun w' => w'.cell? ⟨gb412, 0, none⟩ = some (.int .i64 t400) ∧ w'.cell? ⟨gb412, 1, none⟩ = some (.slice Ao40 t401.length co40) ∧ w'.cell? ⟨gb412, 2, none⟩ = some (.slice Ao41 t404.length co41) ∧ w'.cell? ⟨gb412, 3, none⟩ = some (.slice Ao42 t407.length co42)) (ds := [12]) #[false, false, false, false, false, false, false, false, false, false, false, false, false] (by kernel_rfl) rfl rfl ⟨(blk_cell BK412.out 0).trans rfl, (blk_cell BK412.out 1).trans rfl, (blk_cell BK412.out 2).trans rfl, (blk_cell BK412.out 3).trans rfl⟩ (fun hHeld => ?_); refine with_tabW spec_dAnySystem.tab6 spec_dAnySystem.bits6 (fun HT_ HW_ => ?_)
    generalize w43.drew = w44 at HO403 HO406 HO409 BK399 BK412 HI0 HK HB hHeld ⊢
    refine pure_ (i := 0) (N := some 26) (v := ?_) (a' := ?_) #[true, false, false, false, false, false, false, false, false, false, false, false, false] rfl rfl (any_of HT_.out (by kernel_rfl)) (fun _ _ _ h => h) (Or.inl ⟨by rfl, ?_⟩) ?_ ?_
    rotate_left
    ·intro w'
     go_simp
     with_reducible rfl
    rotate_left
    ·simp only [Act.put, List.setIfInBounds_toArray, List.set_cons_zero, List.set_cons_succ, i64_w, i32_w]
     rfl
    refine pure_ (i := 2) (N := some 28) (v := ?_) (a' := ?_) #[true, false, true, false, false, false, false, false, false, false, false, false, false] rfl rfl (any_of HT_.out (by kernel_rfl)) (fun _ _ _ h => h) (Or.inl ⟨by rfl, ?_⟩) ?_ ?_
    rotate_left
    ·intro w'
     go_simp
     with_reducible rfl
    rotate_left
    ·simp only [Act.put, List.setIfInBounds_toArray, List.set_cons_zero, List.set_cons_succ, i64_w, i32_w]
     rfl
    refine pure_ (i := 3) (N := some 29) (v := ?_) (a' := ?_) #[true, false, true, true, false, false, false, false, false, false, false, false, false] rfl rfl (any_of HT_.out (by kernel_rfl)) (fun _ _ _ h => h) (Or.inl ⟨by rfl, ?_⟩) ?_ ?_
    rotate_left
    ·intro w'
     go_simp
     with_reducible rfl
    rotate_left
    ·simp only [Act.put, List.setIfInBounds_toArray, List.set_cons_zero, List.set_cons_succ, i64_w, i32_w]
     rfl
    refine pure_ (i := 7) (N := some 33) (v := ?_) (a' := ?_) #[true, false, true, true, false, false, false, true, false, false, false, false, false] rfl rfl (any_of HT_.out (by kernel_rfl)) (fun _ _ _ h => h) (Or.inl ⟨by rfl, ?_⟩) ?_ ?_
    rotate_left
    ·intro w'
     go_simp
     with_reducible rfl
    rotate_left
    ·simp only [Act.put, List.setIfInBounds_toArray, List.set_cons_zero, List.set_cons_succ, i64_w, i32_w]
     rfl
    refine pure_ (i := 8) (N := some 34) (v := ?_) (a' := ?_) #[true, false, true, true, false, false, false, true, true, false, false, false, false] rfl rfl (any_of HT_.out (by kernel_rfl)) (fun _ _ _ h => h) (Or.inl ⟨by rfl, ?_⟩) ?_ ?_
    rotate_left
    ·intro w'
     go_simp
     with_reducible rfl
    rotate_left
    ·simp only [Act.put, List.setIfInBounds_toArray, List.set_cons_zero, List.set_cons_succ, i64_w, i32_w]
     rfl
    refine take_ (i := 1) (N := some 27) (v := ?_) (a' := ?_) #[true, true, true, true, false, false, false, true, true, false, false, false, false] rfl rfl (take_ofW HT_.out HW_.out (by kernel_rfl)) (fun _ _ _ h => h) (Or.inl ⟨by rfl, ?_⟩) hHeld ?_ ?_
    rotate_left
    ·rintro w' ⟨s0, s1, s2, s3⟩
     go_simp
     with_reducible rfl
    rotate_left
    ·simp only [Act.put, List.setIfInBounds_toArray, List.set_cons_zero, List.set_cons_succ, i64_w, i32_w]
     rfl
    refine take_ (i := 4) (N := some 30) (v := ?_) (a' := ?_) #[true, true, true, true, true, false, false, true, true, false, false, false, false] rfl rfl (take_ofW HT_.out HW_.out (by kernel_rfl)) (fun _ _ _ h => h) (Or.inl ⟨by rfl, ?_⟩) hHeld ?_ ?_
    rotate_left
    ·rintro w' ⟨s0, s1, s2, s3⟩
     go_simp
     with_reducible rfl
    rotate_left
    ·simp only [Act.put, List.setIfInBounds_toArray, List.set_cons_zero, List.set_cons_succ, i64_w, i32_w]
     rfl
    refine pure_ (i := 5) (N := some 31) (v := ?_) (a' := ?_) #[true, true, true, true, true, true, false, true, true, false, false, false, false] rfl rfl (any_of HT_.out (by kernel_rfl)) (fun _ _ _ h => h) (Or.inl ⟨by rfl, ?_⟩) ?_ ?_
    rotate_left
    ·intro w'
     go_simp
     with_reducible rfl
    rotate_left
    ·simp only [Act.put, List.setIfInBounds_toArray, List.set_cons_zero, List.set_cons_succ, i64_w, i32_w]
     rfl
    refine take_ (i := 9) (N := some 35) (v := ?_) (a' := ?_) #[true, true, true, true, true, true, false, true, true, true, false, false, false] rfl rfl (take_ofW HT_.out HW_.out (by kernel_rfl)) (fun _ _ _ h => h) (Or.inl ⟨by rfl, ?_⟩) hHeld ?_ ?_
    rotate_left
    ·rintro w' ⟨s0, s1, s2, s3⟩
     go_simp
     with_reducible rfl
    rotate_left
    ·simp only [Act.put, List.setIfInBounds_toArray, List.set_cons_zero, List.set_cons_succ, i64_w, i32_w]
     rfl
    refine one_ (i := 6) (N := some 32) #[true, true, true, true, true, true, true, true, true, true, false, false, false] rfl rfl (one_of HT_.out (by kernel_rfl)) (by decide) (fun K hK => ?_)
    refine goes_ Try.func112 (by kernel_rfl) rfl #[.pointer (some ⟨g, 0, none⟩), .int .i64 (t404.length : Int)] (by rfl) rfl rfl la_ ?_
    with_reducible refine (spec_l1Below.calls g s0_0 t414 t415 (t404.length : Int) t423 t424 t425 w0 _ ?side1 ?side2 A29.out).mono ?_
    (case side1 => repeat (first | (with_reducible first | exact HI0.out | apply IsS96.alloc | apply IsS96.drewN | apply IsS96.drew | apply IsS96.set_1 | apply IsS96.set_2 | refine IsS96.far ?_ NB0_399.out _ | refine IsS96.far ?_ NB0_412.out _) | exact HI0.out))
    (case side2 => repeat (first | (with_reducible first | exact HB.out | apply below_alloc | apply pw_below_drewN | apply below_drew1 | refine below_set ?_ (IsS96.ge HI0.out) | refine below_set ?_ GE399.out | refine below_set ?_ GE412.out) | exact HB.out))
    rintro e w45 ⟨rfl, hi, hb, hk⟩
    refine ⟨_, rfl, ?_⟩
    replace BK399 := sd_ (KeepBut.blk hk (g' := gb399) (o := .cells #[.int .i64 0, .slice none 0 0, .slice none 0 0, .slice none 0 0] 27 (0, 0)) (bz_ BK399.out) NB399_0.out (by simp))
    replace HO403 := sd_ (Kd.R_mono (Kd.R_keep (IsS96.apart (show IsS96 w0 _ g s0_0 t414 t415 from by repeat (first | (with_reducible first | exact HI0.out | apply IsS96.alloc | apply IsS96.drewN | apply IsS96.drew | apply IsS96.set_1 | apply IsS96.set_2 | refine IsS96.far ?_ NB0_399.out _ | refine IsS96.far ?_ NB0_412.out _) | exact HI0.out)) (ro_ HO403.out) (by decide)) hk (fun _ h => h.2)) (fun _ h => h.1))
    replace HO406 := sd_ (Kd.R_mono (Kd.R_keep (IsS96.apart (show IsS96 w0 _ g s0_0 t414 t415 from by repeat (first | (with_reducible first | exact HI0.out | apply IsS96.alloc | apply IsS96.drewN | apply IsS96.drew | apply IsS96.set_1 | apply IsS96.set_2 | refine IsS96.far ?_ NB0_399.out _ | refine IsS96.far ?_ NB0_412.out _) | exact HI0.out)) (ro_ HO406.out) (by decide)) hk (fun _ h => h.2)) (fun _ h => h.1))
    replace HO409 := sd_ (Kd.R_mono (Kd.R_keep (IsS96.apart (show IsS96 w0 _ g s0_0 t414 t415 from by repeat (first | (with_reducible first | exact HI0.out | apply IsS96.alloc | apply IsS96.drewN | apply IsS96.drew | apply IsS96.set_1 | apply IsS96.set_2 | refine IsS96.far ?_ NB0_399.out _ | refine IsS96.far ?_ NB0_412.out _) | exact HI0.out)) (ro_ HO409.out) (by decide)) hk (fun _ h => h.2)) (fun _ h => h.1))
    replace BK412 := sd_ (KeepBut.blk hk (g' := gb412) (o := .cells #[.int .i64 t400, .slice Ao40 t401.length co40, .slice Ao41 t404.length co41, .slice Ao42 t407.length co42] 27 (0, 0)) (bz_ BK412.out) NB412_0.out (by simp))
    replace HK := sd_ (KeepBut.trans (by repeat (first | (with_reducible first | exact HK.out | apply KeepBut.set_ | apply keep_drewN | apply keep_drew | apply keep_alloc | refine keep_far ?_ GW399.out _ | refine keep_far ?_ GW412.out _) | exact HK.out)) hk (.inl rfl))
    replace HB := sd_ (hb)
    replace HI0 := sd_ (hi)
    (try clear hb)
    (try clear hb2)
    (try clear hk)
    (try clear hi)
    refine hK.out _ _ ⟨(blk_cell BK412.out 0).trans rfl, (blk_cell BK412.out 1).trans rfl, (blk_cell BK412.out 2).trans rfl, (blk_cell BK412.out 3).trans rfl⟩ (fun hHeld => ?_)
    clear hK K
    refine norm_ (a' := ?_) ?_ ?_
    rotate_left
    ·show Act.put _ (some 32) _ = _
     simp only [Act.put, List.setIfInBounds_toArray, List.set_cons_zero, List.set_cons_succ, i64_w, i32_w]
     rfl
    refine one_ (i := 10) (N := some 36) #[true, true, true, true, true, true, true, true, true, true, true, false, false] rfl rfl (one_of HT_.out (by kernel_rfl)) (by decide) (fun K hK => ?_)
    refine goes_ Try.func112 (by kernel_rfl) rfl #[.pointer (some ⟨g, 0, none⟩), .int .i64 t400] (by rfl) rfl rfl la_ ?_
    with_reducible refine (spec_l1Below.calls g s0_0 t424 t425 t400 t426 t427 t428 w0 _ ?side1 ?side2 A30.out).mono ?_
    (case side1 => repeat (first | (with_reducible first | exact HI0.out | apply IsS96.alloc | apply IsS96.drewN | apply IsS96.drew | apply IsS96.set_1 | apply IsS96.set_2 | refine IsS96.far ?_ NB0_399.out _ | refine IsS96.far ?_ NB0_412.out _) | exact HI0.out))
    (case side2 => repeat (first | (with_reducible first | exact HB.out | apply below_alloc | apply pw_below_drewN | apply below_drew1 | refine below_set ?_ (IsS96.ge HI0.out) | refine below_set ?_ GE399.out | refine below_set ?_ GE412.out) | exact HB.out))
    rintro e w46 ⟨rfl, hi, hb, hk⟩
    refine ⟨_, rfl, ?_⟩
    replace BK399 := sd_ (KeepBut.blk hk (g' := gb399) (o := .cells #[.int .i64 0, .slice none 0 0, .slice none 0 0, .slice none 0 0] 27 (0, 0)) (bz_ BK399.out) NB399_0.out (by simp))
    replace HO403 := sd_ (Kd.R_mono (Kd.R_keep (IsS96.apart (show IsS96 w0 _ g s0_0 t424 t425 from by repeat (first | (with_reducible first | exact HI0.out | apply IsS96.alloc | apply IsS96.drewN | apply IsS96.drew | apply IsS96.set_1 | apply IsS96.set_2 | refine IsS96.far ?_ NB0_399.out _ | refine IsS96.far ?_ NB0_412.out _) | exact HI0.out)) (ro_ HO403.out) (by decide)) hk (fun _ h => h.2)) (fun _ h => h.1))
    replace HO406 := sd_ (Kd.R_mono (Kd.R_keep (IsS96.apart (show IsS96 w0 _ g s0_0 t424 t425 from by repeat (first | (with_reducible first | exact HI0.out | apply IsS96.alloc | apply IsS96.drewN | apply IsS96.drew | apply IsS96.set_1 | apply IsS96.set_2 | refine IsS96.far ?_ NB0_399.out _ | refine IsS96.far ?_ NB0_412.out _) | exact HI0.out)) (ro_ HO406.out) (by decide)) hk (fun _ h => h.2)) (fun _ h => h.1))
    replace HO409 := sd_ (Kd.R_mono (Kd.R_keep (IsS96.apart (show IsS96 w0 _ g s0_0 t424 t425 from by repeat (first | (with_reducible first | exact HI0.out | apply IsS96.alloc | apply IsS96.drewN | apply IsS96.drew | apply IsS96.set_1 | apply IsS96.set_2 | refine IsS96.far ?_ NB0_399.out _ | refine IsS96.far ?_ NB0_412.out _) | exact HI0.out)) (ro_ HO409.out) (by decide)) hk (fun _ h => h.2)) (fun _ h => h.1))
    replace BK412 := sd_ (KeepBut.blk hk (g' := gb412) (o := .cells #[.int .i64 t400, .slice Ao40 t401.length co40, .slice Ao41 t404.length co41, .slice Ao42 t407.length co42] 27 (0, 0)) (bz_ BK412.out) NB412_0.out (by simp))
    replace HK := sd_ (KeepBut.trans (by repeat (first | (with_reducible first | exact HK.out | apply KeepBut.set_ | apply keep_drewN | apply keep_drew | apply keep_alloc | refine keep_far ?_ GW399.out _ | refine keep_far ?_ GW412.out _) | exact HK.out)) hk (.inl rfl))
    replace HB := sd_ (hb)
    replace HI0 := sd_ (hi)
    (try clear hb)
    (try clear hb2)
    (try clear hk)
    (try clear hi)
    have p33 : 0 ≤ (t423 : Int) := dt_
    have q33 : (t423 : Int) < ((t404.length : Int) : Int) := dt_
    obtain ⟨go33, co33, eo33, gb33, gl33, cl33, HG33⟩ := Kd.R_form HO406.out (by omega)
    (first | cases eo33 | (injection eo33 with ea_ en_ ec_; (first | subst ea_ | (injection ea_ with ea_; subst ea_)); subst ec_; clear en_))
    have GB33 := sd_ gb33
    have GG33 := sd_ HG33
    clear gb33 gl33 HG33
    obtain ⟨hx33_0, hf33_0⟩ := Kd.R_celln 0 HO406.out (t423 : Int) p33 q33
    replace p33 := eq_true p33
    replace q33 := eq_true q33
    have HN0_go33 := sd_ (show g ≠ go33 from by have h_ := IsS96.own_ne HI0.out HO406.out (by decide); intro e_; exact h_ (by rw [e_]; rfl))
    have HP47 := Kd.R_putn HO406.out (t423 : Int) t426
    rw [← Ny429.out] at HP47
    have HQ47 := sd_ HP47
    clear HP47
    refine hK.out _ _ ⟨(blk_cell BK412.out 0).trans rfl, (blk_cell BK412.out 1).trans rfl, (blk_cell BK412.out 2).trans rfl, (blk_cell BK412.out 3).trans rfl⟩ (fun hHeld => ?_)
    clear hK K
    refine norm_ (a' := ?_) ?_ ?_
    rotate_left
    ·show Act.put _ (some 36) _ = _
     simp only [Act.put, List.setIfInBounds_toArray, List.set_cons_zero, List.set_cons_succ, i64_w, i32_w]
     rfl
    refine pure_ (i := 11) (N := some 37) (v := ?_) (a' := ?_) #[true, true, true, true, true, true, true, true, true, true, true, true, false] rfl rfl (any_of HT_.out (by kernel_rfl)) (fun _ _ _ h => h) (Or.inl ⟨by rfl, ?_⟩) ?_ ?_
    rotate_left
    ·intro w'
     go_simp
     with_reducible rfl
    rotate_left
    ·simp only [Act.put, List.setIfInBounds_toArray, List.set_cons_zero, List.set_cons_succ, i64_w, i32_w]
     rfl
    refine last_ (i := 12) (N := none) #[true, true, true, true, true, true, true, true, true, true, true, true, true] rfl rfl (one_of HT_.out (by kernel_rfl)) (by decide) (fun K hK => ?_)
    refine skip_ (w1 := ?_) (by rfl) rfl ?_ ?_
    rotate_left
    ·go_simp
     rfl
    refine hK.out _ _ ?_
    clear hK K
    refine done_ (done_of HT_.out (by kernel_rfl)) ?_
    have n0_ : Aside0 (Kd.R (Kd.int .i64) 3 (w46.setCell ⟨go33, (t423 : Int).toNat, none⟩ (.int .i64 t426)) w.heap.size (fun k_ => some k_ ≠ (.slice (some ⟨go33, 0, none⟩) t404.length co41 : Value).ownBlock) (.slice Ao40 t401.length co40) t401) := ⟨by (with_reducible repeat (first | apply Kd.R_alloc | apply Kd.R_drewN | apply Kd.R_drew)); exact Kd.R_mono (Kd.R_far (p := ⟨go33, (t423 : Int).toNat, none⟩) (Kd.R_mono HO403.out (fun k_ hk => (⟨hk, fun e_ => hk (by rw [e_]; rfl)⟩ : _ ∧ k_ ≠ go33))) (fun _ hk => hk.2) (.int .i64 t426)) (fun _ hk => hk.1)⟩
    have n1_ : Aside0 (Kd.R (Kd.int .i64) 3 (w46.setCell ⟨go33, (t423 : Int).toNat, none⟩ (.int .i64 t426)) w.heap.size (fun k_ => some k_ ≠ (.slice Ao40 t401.length co40 : Value).ownBlock) (.slice (some ⟨go33, 0, none⟩) t404.length co41) y429) := ⟨by (with_reducible repeat (first | apply Kd.R_alloc | apply Kd.R_drewN | apply Kd.R_drew)); exact HQ47.out⟩
    have n2_ : Aside0 (Kd.R Kd.bool 4 (w46.setCell ⟨go33, (t423 : Int).toNat, none⟩ (.int .i64 t426)) w.heap.size (fun _ => True) (.slice Ao42 t407.length co42) t407) := ⟨by (with_reducible repeat (first | apply Kd.R_alloc | apply Kd.R_drewN | apply Kd.R_drew)); exact Kd.R_mono (Kd.R_far (p := ⟨go33, (t423 : Int).toNat, none⟩) (Kd.R_types HO409.out GG33.out (by decide)) (fun _ hk => hk.2) (.int .i64 t426)) (fun _ hk => trivial)⟩
    have n3_ : Aside0 ((w46.setCell ⟨go33, (t423 : Int).toNat, none⟩ (.int .i64 t426)).heap[gb399]? = some (.cells #[.int .i64 0, .slice none 0 0, .slice none 0 0, .slice none 0 0] 27 (0, 0))) := ⟨by (with_reducible repeat (first | refine blk_drewN ?_ _ | refine blk_drew ?_ | refine blk_alloc ?_ _)); refine blk_far ?_ (by have h_ := Kd.R_ne HO406.out BK399.out (by decide); intro e_; exact h_ (by rw [e_]; rfl)) _; exact bz_ BK399.out⟩
    have n4_ : Aside0 ((w46.setCell ⟨go33, (t423 : Int).toNat, none⟩ (.int .i64 t426)).heap[gb412]? = some (.cells #[.int .i64 t400, .slice Ao40 t401.length co40, .slice (some ⟨go33, 0, none⟩) t404.length co41, .slice Ao42 t407.length co42] 27 (0, 0))) := ⟨by (with_reducible repeat (first | refine blk_drewN ?_ _ | refine blk_drew ?_ | refine blk_alloc ?_ _)); refine blk_far ?_ (by have h_ := Kd.R_ne HO406.out BK412.out (by decide); intro e_; exact h_ (by rw [e_]; rfl)) _; exact bz_ BK412.out⟩
    have n5_ : Aside0 (IsS96 w0 (w46.setCell ⟨go33, (t423 : Int).toNat, none⟩ (.int .i64 t426)) g s0_0 t427 t428) := ⟨by repeat (first | (with_reducible first | exact HI0.out | apply IsS96.alloc | apply IsS96.drewN | apply IsS96.drew | apply IsS96.set_1 | apply IsS96.set_2 | refine IsS96.far ?_ HN0_go33.out _ | refine IsS96.far ?_ NB0_399.out _ | refine IsS96.far ?_ NB0_412.out _) | exact HI0.out)⟩
    have n6_ : Aside0 (KeepBut w (w46.setCell ⟨go33, (t423 : Int).toNat, none⟩ (.int .i64 t426)) g none) := ⟨by repeat (first | (with_reducible first | exact HK.out | apply KeepBut.set_ | apply keep_drewN | apply keep_drew | apply keep_alloc | refine keep_far ?_ GB33.out _ | refine keep_far ?_ GW399.out _ | refine keep_far ?_ GW412.out _) | exact HK.out)⟩
    have n7_ : Aside0 (Below w0.heap.size w0 (w46.setCell ⟨go33, (t423 : Int).toNat, none⟩ (.int .i64 t426))) := ⟨by repeat (first | (with_reducible first | exact HB.out | apply below_alloc | apply pw_below_drewN | apply below_drew1 | refine below_set ?_ (Nat.le_trans HL.out GB33.out) | refine below_set ?_ (IsS96.ge HI0.out) | refine below_set ?_ GE399.out | refine below_set ?_ GE412.out) | exact HB.out)⟩
    (try clear HO403)
    (try clear HO406)
    (try clear HO409)
    (try clear BK399)
    (try clear BK412)
    (try clear HI0)
    (try clear HK)
    (try clear HB)
    generalize (w46.setCell ⟨go33, (t423 : Int).toNat, none⟩ (.int .i64 t426)) = w48 at n0_ n1_ n2_ n3_ n4_ n5_ n6_ n7_ ⊢
    have HO403 := n0_
    have HO406 := n1_
    have HO409 := n2_
    have BK399 := n3_
    have BK412 := n4_
    have HI0 := n5_
    have HK := n6_
    have HB := n7_
    clear n0_ n1_ n2_ n3_ n4_ n5_ n6_ n7_
    obtain ⟨hcz49_0, hcz49_1, hcz49_2, hcz49_3, hfz49_0, hfz49_1, hfz49_2, hfz49_3⟩ := bf4_ BK412.out
    have hnb50 := NB399_0.out
    have hnc50 := NB0_399.out
    obtain ⟨hcz51_0, hcz51_1, hcz51_2, hcz51_3, hfz51_0, hfz51_1, hfz51_2, hfz51_3⟩ := bf4_ BK399.out
    try go_wp2
    refine bodyPost_ret (results_cell_row rfl _ _ gb399 27 #[.int .i64 t400, .slice Ao40 t401.length co40, .slice (some ⟨go33, 0, none⟩) t404.length co41, .slice Ao42 t407.length co42] (0, 0) _ rfl (by (with_reducible repeat (first | refine blk_drewN ?_ _ | refine blk_drew ?_ | refine blk_alloc ?_ _)); refine blk_put (cs := #[.int .i64 t400, .slice Ao40 t401.length co40, .slice (some ⟨go33, 0, none⟩) t404.length co41, .slice none 0 0]) ?_ 3 _ rfl; (with_reducible repeat (first | refine blk_drewN ?_ _ | refine blk_drew ?_ | refine blk_alloc ?_ _)); refine blk_put (cs := #[.int .i64 t400, .slice Ao40 t401.length co40, .slice none 0 0, .slice none 0 0]) ?_ 2 _ rfl; (with_reducible repeat (first | refine blk_drewN ?_ _ | refine blk_drew ?_ | refine blk_alloc ?_ _)); refine blk_put (cs := #[.int .i64 t400, .slice none 0 0, .slice none 0 0, .slice none 0 0]) ?_ 1 _ rfl; (with_reducible repeat (first | refine blk_drewN ?_ _ | refine blk_drew ?_ | refine blk_alloc ?_ _)); refine blk_put (cs := #[.int .i64 0, .slice none 0 0, .slice none 0 0, .slice none 0 0]) ?_ 0 _ rfl; exact bz_ BK399.out) Try.underlying27 rfl (by kernel_rfl)) rfl ?_
    exact ⟨_, _, _, an_, by (with_reducible repeat (first | apply Kd.R_alloc | apply Kd.R_drewN | apply Kd.R_drew)); exact rf_ HO403.out BK399.out, by (with_reducible repeat (first | apply Kd.R_alloc | apply Kd.R_drewN | apply Kd.R_drew)); exact rf_ HO406.out BK399.out, by (with_reducible repeat (first | apply Kd.R_alloc | apply Kd.R_drewN | apply Kd.R_drew)); exact Kd.R_mono (Kd.R_far (p := ⟨gb399, 3, none⟩) (Kd.R_far (p := ⟨gb399, 2, none⟩) (Kd.R_far (p := ⟨gb399, 1, none⟩) (Kd.R_far (p := ⟨gb399, 0, none⟩) (Kd.R_types HO409.out BK399.out (by decide)) (fun _ hk => hk.2) (.int .i64 t400)) (fun _ hk => hk.2) (.slice Ao40 t401.length co40)) (fun _ hk => hk.2) (.slice (some ⟨go33, 0, none⟩) t404.length co41)) (fun _ hk => hk.2) (.slice Ao42 t407.length co42)) (fun _ hk => trivial), by repeat (first | (with_reducible first | exact HI0.out | apply IsS96.alloc | apply IsS96.drewN | apply IsS96.drew | apply IsS96.set_1 | apply IsS96.set_2 | refine IsS96.far ?_ NB0_399.out _ | refine IsS96.far ?_ NB0_412.out _) | exact HI0.out), by repeat (first | (with_reducible first | exact HB.out | apply below_alloc | apply pw_below_drewN | apply below_drew1 | refine below_set ?_ (IsS96.ge HI0.out) | refine below_set ?_ GE399.out | refine below_set ?_ GE412.out) | exact HB.out), by repeat (first | (with_reducible first | exact HK.out | apply KeepBut.set_ | apply keep_drewN | apply keep_drew | apply keep_alloc | refine keep_far ?_ GW399.out _ | refine keep_far ?_ GW412.out _) | exact HK.out)⟩
   rw [if_neg c32] at H
   exact absurd H (by simp)
  rw [if_neg c31] at H
  exact absurd H (by simp)
 rw [if_neg c28] at H
 have c28b0 : (t413 == 1) = false := beq_eq_false_iff_ne.mpr c28
 have c28b1 : (t413 != 1) = true := bne_iff_ne.mpr c28
 by_cases c52 : t413 = 2
 ·rw [if_pos c52] at H
  have c52b0 : (t413 == 2) = true := beq_iff_eq.mpr c52
  have c52b1 : (t413 != 2) = false := bne_eq_false_iff_eq.mpr c52
  clear c52
  replace H := Option.bind_eq_some_iff.mp H
  obtain ⟨⟨t430, t431, t432⟩, A530, H⟩ := H
  try dsimp only at H
  have A53 := sd_ A530
  clear A530
  by_cases c54 : 0 ≤ t430
  ·rw [if_pos c54] at H
   have c54b0 : decide (0 ≤ t430) = true := decide_eq_true c54
   clear c54
   by_cases c55 : t430 < (t407.length : Int)
   ·rw [if_pos c55] at H
    have c55b0 : decide (t430 < (t407.length : Int)) = true := decide_eq_true c55
    clear c55
    obtain ⟨y434, hy434⟩ : ∃ y_ : List Bool, y_ = (t407.set (t430 : Int).toNat (!(rdOf false t407 t430))) := ⟨_, rfl⟩
    replace H : (some (t400, t401, t404, y434, t431, t432)) = some (r1, r2, r3, r4, r5, r6) := by first | (rw [hy434]; with_reducible exact H) | (have H2_ := (Option.bind_some _ _).symm.trans H; rw [hy434]; with_reducible exact H2_) | (have H2_ := (Option.bind_some _ _).symm.trans H; with_reducible exact H2_) | with_reducible exact H | (rw [hy434]; exact H) | exact H
    have Ny434 := sd_ hy434
    clear hy434
    simp only [Option.some.injEq, Prod.mk.injEq] at H
    obtain ⟨rfl, rfl, rfl, rfl, rfl, rfl⟩ := H
    go_enter Try.func96, Try.ntmps96
    try go_wp2_with (first | ((with_reducible refine gate_dst (N := 2) rfl ?_); refine bx_ (N := 2) (cs := #[.int .i64 0, .slice none 0 0, .slice none 0 0, .slice none 0 0]) (t := 27) ?_; intro gb399 hg w57 hbox hb; replace HB := sd_ (below_step (by repeat (first | (with_reducible first | exact HB.out | apply below_alloc | apply pw_below_drewN | apply below_drew1 | refine below_set ?_ (IsS96.ge HI0.out)) | exact HB.out)) hb); have BK399 := sd_ (hbox); have GW399 := sd_ ((by rw [hg]; exact (keep_size (w := w) (g := g) (row := none) (by repeat (first | (with_reducible first | exact HK.out | apply KeepBut.set_ | apply keep_drewN | apply keep_drew | apply keep_alloc) | exact HK.out))) : w.heap.size ≤ gb399)); have GE399 := sd_ ((Nat.le_trans HW0.out (by rw [hg]; exact (keep_size (w := w) (g := g) (row := none) (by repeat (first | (with_reducible first | exact HK.out | apply KeepBut.set_ | apply keep_drewN | apply keep_drew | apply keep_alloc) | exact HK.out))) : w.heap.size ≤ gb399) : w0.heap.size ≤ gb399)); replace HK := sd_ (KeepBut.trans (by repeat (first | (with_reducible first | exact HK.out | apply KeepBut.set_ | apply keep_drewN | apply keep_drew | apply keep_alloc) | exact HK.out)) (KeepBut.of_below hb g none) (.inl rfl)); have NB0_399 := sd_ ((by rw [hg]; exact Nat.ne_of_lt (IsS96.lt (show IsS96 w0 _ g s0_0 s0_1 s0_2 from by repeat (first | (with_reducible first | exact HI0.out | apply IsS96.alloc | apply IsS96.drewN | apply IsS96.drew | apply IsS96.set_1 | apply IsS96.set_2) | exact HI0.out))) : g ≠ gb399)); have NB399_0 := sd_ ((by rw [hg]; exact Nat.ne_of_gt (IsS96.lt (show IsS96 w0 _ g s0_0 s0_1 s0_2 from by repeat (first | (with_reducible first | exact HI0.out | apply IsS96.alloc | apply IsS96.drewN | apply IsS96.drew | apply IsS96.set_1 | apply IsS96.set_2) | exact HI0.out))) : gb399 ≠ g)); replace HI0 := sd_ (IsS96.below (by repeat (first | (with_reducible first | exact HI0.out | apply IsS96.alloc | apply IsS96.drewN | apply IsS96.drew | apply IsS96.set_1 | apply IsS96.set_2) | exact HI0.out)) hb); clear hb hbox hg) | ((with_reducible refine gate_callee (f := 100) rfl ?_); refine goesL_ (some 6) rfl rfl Try.func100 (by kernel_rfl) rfl #[.pointer (some ⟨g, 0, none⟩)] rfl la_ ?_; (with_reducible refine (spec_dSystem.calls k g s0_0 s0_1 s0_2 t400 t401 t404 t407 t410 t411 w0 _ ?side1 ?side2 A2.out).mono ?_); (case side1 => repeat (first | (with_reducible first | exact HI0.out | apply IsS96.alloc | apply IsS96.drewN | apply IsS96.drew | apply IsS96.set_1 | apply IsS96.set_2 | refine IsS96.far ?_ NB0_399.out _) | exact HI0.out)); (case side2 => repeat (first | (with_reducible first | exact HB.out | apply below_alloc | apply pw_below_drewN | apply below_drew1 | refine below_set ?_ (IsS96.ge HI0.out) | refine below_set ?_ GE399.out) | exact HB.out)); rintro e w58 ⟨v402, v405, v408, rfl, ho0, ho1, ho2, hi, hb, hk⟩; refine ⟨_, rfl, ?_⟩; replace BK399 := sd_ (KeepBut.blk hk (g' := gb399) (o := .cells #[.int .i64 0, .slice none 0 0, .slice none 0 0, .slice none 0 0] 27 (0, 0)) (bz_ BK399.out) NB399_0.out (by simp)); have HO403 := sd_ (Kd.R_lower ho0 (keep_size (w := w) (g := g) (row := none) (by repeat (first | (with_reducible first | exact HK.out | apply KeepBut.set_ | apply keep_drewN | apply keep_drew | apply keep_alloc | refine keep_far ?_ GW399.out _) | exact HK.out)))); have HO406 := sd_ (Kd.R_lower ho1 (keep_size (w := w) (g := g) (row := none) (by repeat (first | (with_reducible first | exact HK.out | apply KeepBut.set_ | apply keep_drewN | apply keep_drew | apply keep_alloc | refine keep_far ?_ GW399.out _) | exact HK.out)))); have HO409 := sd_ (Kd.R_lower ho2 (keep_size (w := w) (g := g) (row := none) (by repeat (first | (with_reducible first | exact HK.out | apply KeepBut.set_ | apply keep_drewN | apply keep_drew | apply keep_alloc | refine keep_far ?_ GW399.out _) | exact HK.out)))); replace HK := sd_ (KeepBut.trans (by repeat (first | (with_reducible first | exact HK.out | apply KeepBut.set_ | apply keep_drewN | apply keep_drew | apply keep_alloc | refine keep_far ?_ GW399.out _) | exact HK.out)) hk (.inl rfl)); replace HB := sd_ (hb); replace HI0 := sd_ (hi); (try clear hb); (try clear hk); (try clear hi); (try clear ho0); (try clear ho1); (try clear ho2)) | ((with_reducible refine gate_dst (N := 3) rfl ?_); refine bx_ (N := 3) (cs := #[.int .i64 0, .slice none 0 0, .slice none 0 0, .slice none 0 0]) (t := 27) ?_; intro gb412 hg w59 hbox hb; replace HO403 := sd_ (Kd.R_below (ro_ HO403.out) hb); replace HO406 := sd_ (Kd.R_below (ro_ HO406.out) hb); replace HO409 := sd_ (Kd.R_below (ro_ HO409.out) hb); replace HB := sd_ (below_step (by repeat (first | (with_reducible first | exact HB.out | apply below_alloc | apply pw_below_drewN | apply below_drew1 | refine below_set ?_ (IsS96.ge HI0.out) | refine below_set ?_ GE399.out) | exact HB.out)) hb); have BK412 := sd_ (hbox); have GW412 := sd_ ((by rw [hg]; exact (keep_size (w := w) (g := g) (row := none) (by repeat (first | (with_reducible first | exact HK.out | apply KeepBut.set_ | apply keep_drewN | apply keep_drew | apply keep_alloc | refine keep_far ?_ GW399.out _) | exact HK.out))) : w.heap.size ≤ gb412)); have GE412 := sd_ ((Nat.le_trans HW0.out (by rw [hg]; exact (keep_size (w := w) (g := g) (row := none) (by repeat (first | (with_reducible first | exact HK.out | apply KeepBut.set_ | apply keep_drewN | apply keep_drew | apply keep_alloc | refine keep_far ?_ GW399.out _) | exact HK.out))) : w.heap.size ≤ gb412) : w0.heap.size ≤ gb412)); replace HK := sd_ (KeepBut.trans (by repeat (first | (with_reducible first | exact HK.out | apply KeepBut.set_ | apply keep_drewN | apply keep_drew | apply keep_alloc | refine keep_far ?_ GW399.out _) | exact HK.out)) (KeepBut.of_below hb g none) (.inl rfl)); have NB399_412 := sd_ (nl_ hg (bl_ BK399.out)); have NB412_399 := sd_ (ng_ hg (bl_ BK399.out)); replace BK399 := sd_ (bb_ BK399.out hb); have NB0_412 := sd_ ((by rw [hg]; exact Nat.ne_of_lt (IsS96.lt (show IsS96 w0 _ g s0_0 t410 t411 from by repeat (first | (with_reducible first | exact HI0.out | apply IsS96.alloc | apply IsS96.drewN | apply IsS96.drew | apply IsS96.set_1 | apply IsS96.set_2 | refine IsS96.far ?_ NB0_399.out _) | exact HI0.out))) : g ≠ gb412)); have NB412_0 := sd_ ((by rw [hg]; exact Nat.ne_of_gt (IsS96.lt (show IsS96 w0 _ g s0_0 t410 t411 from by repeat (first | (with_reducible first | exact HI0.out | apply IsS96.alloc | apply IsS96.drewN | apply IsS96.drew | apply IsS96.set_1 | apply IsS96.set_2 | refine IsS96.far ?_ NB0_399.out _) | exact HI0.out))) : gb412 ≠ g)); replace HI0 := sd_ (IsS96.below (by repeat (first | (with_reducible first | exact HI0.out | apply IsS96.alloc | apply IsS96.drewN | apply IsS96.drew | apply IsS96.set_1 | apply IsS96.set_2 | refine IsS96.far ?_ NB0_399.out _) | exact HI0.out)) hb); clear hb hbox hg; have hnb60 := NB412_399.out; have hnc60 := NB399_412.out; have hnb61 := NB412_0.out; have hnc61 := NB0_412.out; obtain ⟨hcz62_0, hcz62_1, hcz62_2, hcz62_3, hfz62_0, hfz62_1, hfz62_2, hfz62_3⟩ := bf4_ BK412.out; obtain ⟨Ao63, co63, eo63⟩ := Kd.R_slice HO403.out; subst eo63; obtain ⟨Ao64, co64, eo64⟩ := Kd.R_slice HO406.out; subst eo64; obtain ⟨Ao65, co65, eo65⟩ := Kd.R_slice HO409.out; subst eo65) | ((with_reducible refine gate_callee (f := 112) rfl ?_); refine goesL_ (some 8) rfl rfl Try.func112 (by kernel_rfl) rfl #[.pointer (some ⟨g, 0, none⟩), .int .i64 9] rfl la_ ?_; (with_reducible refine (spec_l1Below.calls g s0_0 t410 t411 9 t413 t414 t415 w0 _ ?side1 ?side2 A3.out).mono ?_); (case side1 => repeat (first | (with_reducible first | exact HI0.out | apply IsS96.alloc | apply IsS96.drewN | apply IsS96.drew | apply IsS96.set_1 | apply IsS96.set_2 | refine IsS96.far ?_ NB0_399.out _ | refine IsS96.far ?_ NB0_412.out _) | exact HI0.out)); (case side2 => repeat (first | (with_reducible first | exact HB.out | apply below_alloc | apply pw_below_drewN | apply below_drew1 | refine below_set ?_ (IsS96.ge HI0.out) | refine below_set ?_ GE399.out | refine below_set ?_ GE412.out) | exact HB.out)); rintro e w66 ⟨rfl, hi, hb, hk⟩; refine ⟨_, rfl, ?_⟩; replace BK399 := sd_ (KeepBut.blk hk (g' := gb399) (o := .cells #[.int .i64 0, .slice none 0 0, .slice none 0 0, .slice none 0 0] 27 (0, 0)) (by exact zf1_ BK399.out NB399_412.out) NB399_0.out (by simp)); replace HO403 := sd_ (Kd.R_mono (Kd.R_keep (IsS96.apart (show IsS96 w0 _ g s0_0 t410 t411 from by repeat (first | (with_reducible first | exact HI0.out | apply IsS96.alloc | apply IsS96.drewN | apply IsS96.drew | apply IsS96.set_1 | apply IsS96.set_2 | refine IsS96.far ?_ NB0_399.out _ | refine IsS96.far ?_ NB0_412.out _) | exact HI0.out)) (by (with_reducible repeat (first | apply Kd.R_alloc | apply Kd.R_drewN | apply Kd.R_drew)); exact (rf_ HO403.out BK412.out)) (by decide)) hk (fun _ h => h.2)) (fun _ h => h.1)); replace HO406 := sd_ (Kd.R_mono (Kd.R_keep (IsS96.apart (show IsS96 w0 _ g s0_0 t410 t411 from by repeat (first | (with_reducible first | exact HI0.out | apply IsS96.alloc | apply IsS96.drewN | apply IsS96.drew | apply IsS96.set_1 | apply IsS96.set_2 | refine IsS96.far ?_ NB0_399.out _ | refine IsS96.far ?_ NB0_412.out _) | exact HI0.out)) (by (with_reducible repeat (first | apply Kd.R_alloc | apply Kd.R_drewN | apply Kd.R_drew)); exact (rf_ HO406.out BK412.out)) (by decide)) hk (fun _ h => h.2)) (fun _ h => h.1)); replace HO409 := sd_ (Kd.R_mono (Kd.R_keep (IsS96.apart (show IsS96 w0 _ g s0_0 t410 t411 from by repeat (first | (with_reducible first | exact HI0.out | apply IsS96.alloc | apply IsS96.drewN | apply IsS96.drew | apply IsS96.set_1 | apply IsS96.set_2 | refine IsS96.far ?_ NB0_399.out _ | refine IsS96.far ?_ NB0_412.out _) | exact HI0.out)) (by (with_reducible repeat (first | apply Kd.R_alloc | apply Kd.R_drewN | apply Kd.R_drew)); exact (rf_ HO409.out BK412.out)) (by decide)) hk (fun _ h => h.2)) (fun _ h => h.1)); replace BK412 := sd_ (KeepBut.blk hk (g' := gb412) (o := .cells #[.int .i64 t400, .slice Ao63 t401.length co63, .slice Ao64 t404.length co64, .slice Ao65 t407.length co65] 27 (0, 0)) (by (with_reducible repeat (first | refine blk_drewN ?_ _ | refine blk_drew ?_ | refine blk_alloc ?_ _)); refine blk_put (cs := #[.int .i64 t400, .slice Ao63 t401.length co63, .slice Ao64 t404.length co64, .slice none 0 0]) ?_ 3 _ rfl; (with_reducible repeat (first | refine blk_drewN ?_ _ | refine blk_drew ?_ | refine blk_alloc ?_ _)); refine blk_put (cs := #[.int .i64 t400, .slice Ao63 t401.length co63, .slice none 0 0, .slice none 0 0]) ?_ 2 _ rfl; (with_reducible repeat (first | refine blk_drewN ?_ _ | refine blk_drew ?_ | refine blk_alloc ?_ _)); refine blk_put (cs := #[.int .i64 t400, .slice none 0 0, .slice none 0 0, .slice none 0 0]) ?_ 1 _ rfl; (with_reducible repeat (first | refine blk_drewN ?_ _ | refine blk_drew ?_ | refine blk_alloc ?_ _)); refine blk_put (cs := #[.int .i64 0, .slice none 0 0, .slice none 0 0, .slice none 0 0]) ?_ 0 _ rfl; exact bz_ BK412.out) NB412_0.out (by simp)); replace HK := sd_ (KeepBut.trans (by repeat (first | (with_reducible first | exact HK.out | apply KeepBut.set_ | apply keep_drewN | apply keep_drew | apply keep_alloc | refine keep_far ?_ GW399.out _ | refine keep_far ?_ GW412.out _) | exact HK.out)) hk (.inl rfl)); replace HB := sd_ (hb); replace HI0 := sd_ (hi); (try clear hb); (try clear hk); (try clear hi); obtain ⟨hcz67_0, hcz67_1, hcz67_2, hcz67_3, hfz67_0, hfz67_1, hfz67_2, hfz67_3⟩ := bf4_ BK412.out) | ((with_reducible refine gate_callee (f := 112) rfl ?_); refine goesL_ (some 44) rfl rfl Try.func112 (by kernel_rfl) rfl #[.pointer (some ⟨g, 0, none⟩), .int .i64 (t407.length : Int)] rfl la_ ?_; (with_reducible refine (spec_l1Below.calls g s0_0 t414 t415 (t407.length : Int) t430 t431 t432 w0 _ ?side1 ?side2 A53.out).mono ?_); (case side1 => repeat (first | (with_reducible first | exact HI0.out | apply IsS96.alloc | apply IsS96.drewN | apply IsS96.drew | apply IsS96.set_1 | apply IsS96.set_2 | refine IsS96.far ?_ NB0_399.out _ | refine IsS96.far ?_ NB0_412.out _) | exact HI0.out)); (case side2 => repeat (first | (with_reducible first | exact HB.out | apply below_alloc | apply pw_below_drewN | apply below_drew1 | refine below_set ?_ (IsS96.ge HI0.out) | refine below_set ?_ GE399.out | refine below_set ?_ GE412.out) | exact HB.out)); rintro e w68 ⟨rfl, hi, hb, hk⟩; refine ⟨_, rfl, ?_⟩; replace BK399 := sd_ (KeepBut.blk hk (g' := gb399) (o := .cells #[.int .i64 0, .slice none 0 0, .slice none 0 0, .slice none 0 0] 27 (0, 0)) (bz_ BK399.out) NB399_0.out (by simp)); replace HO403 := sd_ (Kd.R_mono (Kd.R_keep (IsS96.apart (show IsS96 w0 _ g s0_0 t414 t415 from by repeat (first | (with_reducible first | exact HI0.out | apply IsS96.alloc | apply IsS96.drewN | apply IsS96.drew | apply IsS96.set_1 | apply IsS96.set_2 | refine IsS96.far ?_ NB0_399.out _ | refine IsS96.far ?_ NB0_412.out _) | exact HI0.out)) (ro_ HO403.out) (by decide)) hk (fun _ h => h.2)) (fun _ h => h.1)); replace HO406 := sd_ (Kd.R_mono (Kd.R_keep (IsS96.apart (show IsS96 w0 _ g s0_0 t414 t415 from by repeat (first | (with_reducible first | exact HI0.out | apply IsS96.alloc | apply IsS96.drewN | apply IsS96.drew | apply IsS96.set_1 | apply IsS96.set_2 | refine IsS96.far ?_ NB0_399.out _ | refine IsS96.far ?_ NB0_412.out _) | exact HI0.out)) (ro_ HO406.out) (by decide)) hk (fun _ h => h.2)) (fun _ h => h.1)); replace HO409 := sd_ (Kd.R_mono (Kd.R_keep (IsS96.apart (show IsS96 w0 _ g s0_0 t414 t415 from by repeat (first | (with_reducible first | exact HI0.out | apply IsS96.alloc | apply IsS96.drewN | apply IsS96.drew | apply IsS96.set_1 | apply IsS96.set_2 | refine IsS96.far ?_ NB0_399.out _ | refine IsS96.far ?_ NB0_412.out _) | exact HI0.out)) (ro_ HO409.out) (by decide)) hk (fun _ h => h.2)) (fun _ h => h.1)); replace BK412 := sd_ (KeepBut.blk hk (g' := gb412) (o := .cells #[.int .i64 t400, .slice Ao63 t401.length co63, .slice Ao64 t404.length co64, .slice Ao65 t407.length co65] 27 (0, 0)) (bz_ BK412.out) NB412_0.out (by simp)); replace HK := sd_ (KeepBut.trans (by repeat (first | (with_reducible first | exact HK.out | apply KeepBut.set_ | apply keep_drewN | apply keep_drew | apply keep_alloc | refine keep_far ?_ GW399.out _ | refine keep_far ?_ GW412.out _) | exact HK.out)) hk (.inl rfl)); replace HB := sd_ (hb); replace HI0 := sd_ (hi); (try clear hb); (try clear hk); (try clear hi)))
    replace HO403 := sd_ (Kd.R_drew HO403.out)
    replace HO406 := sd_ (Kd.R_drew HO406.out)
    replace HO409 := sd_ (Kd.R_drew HO409.out)
    replace BK399 := sd_ (blk_drew BK399.out)
    replace BK412 := sd_ (blk_drew BK412.out)
    replace HI0 := sd_ (IsS96.drew HI0.out)
    replace HK := sd_ (keep_drew HK.out)
    replace HB := sd_ (below_drew1 HB.out)
    have p433 : 0 ≤ (t430 : Int) := dt_
    have q433 : t430 < (t407.length : Int) := dt_
    obtain ⟨ad433, e433, hx433_0⟩ := Kd.at_bool (Kd.R_reads' HO409.out).2.2 t430 p433 q433
    cases e433
    replace p433 := eq_true p433
    replace q433 := eq_true q433
    have p56 : 0 ≤ (t430 : Int) := dt_
    have q56 : (t430 : Int) < ((t407.length : Int) : Int) := dt_
    obtain ⟨go56, co56, eo56, gb56, gl56, cl56, HG56⟩ := Kd.R_form HO409.out (by omega)
    (first | cases eo56 | (injection eo56 with ea_ en_ ec_; (first | subst ea_ | (injection ea_ with ea_; subst ea_)); subst ec_; clear en_))
    have GB56 := sd_ gb56
    have GG56 := sd_ HG56
    clear gb56 gl56 HG56
    (first | simp only [add_plain] at hx433_0 | skip)
    obtain ⟨hx56_0, hf56_0⟩ := Kd.R_celln false HO409.out (t430 : Int) p56 q56
    replace p56 := eq_true p56
    replace q56 := eq_true q56
    have HN0_go56 := sd_ (show g ≠ go56 from by have h_ := IsS96.own_ne HI0.out HO409.out (by decide); intro e_; exact h_ (by rw [e_]; rfl))
    have HP70 := Kd.R_putn HO409.out (t430 : Int) (!(rdOf false t407 t430))
    rw [← Ny434.out] at HP70
    have HQ70 := sd_ HP70
    clear HP70
    refine start_ (n := 11) (S := fun w' => w'.cell? ⟨gb412, 0, none⟩ = some (.int .i64 t400) ∧ w'.cell? ⟨gb412, 1, none⟩ = some (.slice Ao63 t401.length co63) ∧ w'.cell? ⟨gb412, 2, none⟩ = some (.slice Ao64 t404.length co64) ∧ w'.cell? ⟨gb412, 3, none⟩ = some (.slice (some ⟨go56, 0, none⟩) t407.length co65) ∧ w'.cell? ⟨go56, (t430).toNat, none⟩ = some (.bool (rdOf false t407 t430))) (ds := [10]) #[false, false, false, false, false, false, false, false, false, false, false] (by kernel_rfl) rfl rfl ⟨(blk_cell BK412.out 0).trans rfl, (blk_cell BK412.out 1).trans rfl, (blk_cell BK412.out 2).trans rfl, (blk_cell BK412.out 3).trans rfl, hx433_0⟩ (fun hHeld => ?_); refine with_tabW spec_dAnySystem.tab9 spec_dAnySystem.bits9 (fun HT_ HW_ => ?_)
    generalize w68.drew = w69 at HO403 HO406 HO409 BK399 BK412 HI0 HK HB GG56 HQ70 hf56_0 hx433_0 hx56_0 hHeld ⊢
    refine pure_ (i := 0) (N := some 45) (v := ?_) (a' := ?_) #[true, false, false, false, false, false, false, false, false, false, false] rfl rfl (any_of HT_.out (by kernel_rfl)) (fun _ _ _ h => h) (Or.inl ⟨by rfl, ?_⟩) ?_ ?_
    rotate_left
    ·intro w'
     go_simp
     with_reducible rfl
    rotate_left
    ·simp only [Act.put, List.setIfInBounds_toArray, List.set_cons_zero, List.set_cons_succ, i64_w, i32_w]
     rfl
    refine pure_ (i := 2) (N := some 47) (v := ?_) (a' := ?_) #[true, false, true, false, false, false, false, false, false, false, false] rfl rfl (any_of HT_.out (by kernel_rfl)) (fun _ _ _ h => h) (Or.inl ⟨by rfl, ?_⟩) ?_ ?_
    rotate_left
    ·intro w'
     go_simp
     with_reducible rfl
    rotate_left
    ·simp only [Act.put, List.setIfInBounds_toArray, List.set_cons_zero, List.set_cons_succ, i64_w, i32_w]
     rfl
    refine pure_ (i := 3) (N := some 48) (v := ?_) (a' := ?_) #[true, false, true, true, false, false, false, false, false, false, false] rfl rfl (any_of HT_.out (by kernel_rfl)) (fun _ _ _ h => h) (Or.inl ⟨by rfl, ?_⟩) ?_ ?_
    rotate_left
    ·intro w'
     go_simp
     with_reducible rfl
    rotate_left
    ·simp only [Act.put, List.setIfInBounds_toArray, List.set_cons_zero, List.set_cons_succ, i64_w, i32_w]
     rfl
    refine pure_ (i := 5) (N := some 50) (v := ?_) (a' := ?_) #[true, false, true, true, false, true, false, false, false, false, false] rfl rfl (any_of HT_.out (by kernel_rfl)) (fun _ _ _ h => h) (Or.inl ⟨by rfl, ?_⟩) ?_ ?_
    rotate_left
    ·intro w'
     go_simp
     with_reducible rfl
    rotate_left
    ·simp only [Act.put, List.setIfInBounds_toArray, List.set_cons_zero, List.set_cons_succ, i64_w, i32_w]
     rfl
    refine take_ (i := 1) (N := some 46) (v := ?_) (a' := ?_) #[true, true, true, true, false, true, false, false, false, false, false] rfl rfl (take_ofW HT_.out HW_.out (by kernel_rfl)) (fun _ _ _ h => h) (Or.inl ⟨by rfl, ?_⟩) hHeld ?_ ?_
    rotate_left
    ·rintro w' ⟨s0, s1, s2, s3, s4⟩
     go_simp
     with_reducible rfl
    rotate_left
    ·simp only [Act.put, List.setIfInBounds_toArray, List.set_cons_zero, List.set_cons_succ, i64_w, i32_w]
     rfl
    refine take_ (i := 4) (N := some 49) (v := ?_) (a' := ?_) #[true, true, true, true, true, true, false, false, false, false, false] rfl rfl (take_ofW HT_.out HW_.out (by kernel_rfl)) (fun _ _ _ h => h) (Or.inl ⟨by rfl, ?_⟩) hHeld ?_ ?_
    rotate_left
    ·rintro w' ⟨s0, s1, s2, s3, s4⟩
     go_simp
     with_reducible rfl
    rotate_left
    ·simp only [Act.put, List.setIfInBounds_toArray, List.set_cons_zero, List.set_cons_succ, i64_w, i32_w]
     rfl
    refine pure_ (i := 6) (N := some 51) (v := ?_) (a' := ?_) #[true, true, true, true, true, true, true, false, false, false, false] rfl rfl (any_of HT_.out (by kernel_rfl)) (fun _ _ _ h => h) (Or.inl ⟨by rfl, ?_⟩) ?_ ?_
    rotate_left
    ·intro w'
     go_simp
     with_reducible rfl
    rotate_left
    ·simp only [Act.put, List.setIfInBounds_toArray, List.set_cons_zero, List.set_cons_succ, i64_w, i32_w]
     rfl
    refine take_ (i := 7) (N := some 52) (v := ?_) (a' := ?_) #[true, true, true, true, true, true, true, true, false, false, false] rfl rfl (take_ofW HT_.out HW_.out (by kernel_rfl)) (fun _ _ _ h => h) (Or.inl ⟨by rfl, ?_⟩) hHeld ?_ ?_
    rotate_left
    ·rintro w' ⟨s0, s1, s2, s3, s4⟩
     go_simp
     with_reducible rfl
    rotate_left
    ·simp only [Act.put, List.setIfInBounds_toArray, List.set_cons_zero, List.set_cons_succ, i64_w, i32_w]
     rfl
    refine pure_ (i := 8) (N := some 53) (v := ?_) (a' := ?_) #[true, true, true, true, true, true, true, true, true, false, false] rfl rfl (any_of HT_.out (by kernel_rfl)) (fun _ _ _ h => h) (Or.inl ⟨by rfl, ?_⟩) ?_ ?_
    rotate_left
    ·intro w'
     go_simp
     with_reducible rfl
    rotate_left
    ·simp only [Act.put, List.setIfInBounds_toArray, List.set_cons_zero, List.set_cons_succ, i64_w, i32_w]
     rfl
    refine pure_ (i := 9) (N := some 54) (v := ?_) (a' := ?_) #[true, true, true, true, true, true, true, true, true, true, false] rfl rfl (any_of HT_.out (by kernel_rfl)) (fun _ _ _ h => h) (Or.inl ⟨by rfl, ?_⟩) ?_ ?_
    rotate_left
    ·intro w'
     go_simp
     with_reducible rfl
    rotate_left
    ·simp only [Act.put, List.setIfInBounds_toArray, List.set_cons_zero, List.set_cons_succ, i64_w, i32_w]
     rfl
    refine last_ (i := 10) (N := none) #[true, true, true, true, true, true, true, true, true, true, true] rfl rfl (one_of HT_.out (by kernel_rfl)) (by decide) (fun K hK => ?_)
    refine skip_ (w1 := ?_) (by rfl) rfl ?_ ?_
    rotate_left
    ·go_simp
     rfl
    refine hK.out _ _ ?_
    clear hK K
    refine done_ (done_of HT_.out (by kernel_rfl)) ?_
    have n0_ : Aside0 (Kd.R (Kd.int .i64) 3 (w69.setCell ⟨go56, (t430 : Int).toNat, none⟩ (.bool (!(rdOf false t407 t430)))) w.heap.size (fun k_ => some k_ ≠ (.slice Ao64 t404.length co64 : Value).ownBlock) (.slice Ao63 t401.length co63) t401) := ⟨by (with_reducible repeat (first | apply Kd.R_alloc | apply Kd.R_drewN | apply Kd.R_drew)); exact Kd.R_mono (Kd.R_far (p := ⟨go56, (t430 : Int).toNat, none⟩) (Kd.R_types HO403.out GG56.out (by decide)) (fun _ hk => hk.2) (.bool (!(rdOf false t407 t430)))) (fun _ hk => hk.1)⟩
    have n1_ : Aside0 (Kd.R (Kd.int .i64) 3 (w69.setCell ⟨go56, (t430 : Int).toNat, none⟩ (.bool (!(rdOf false t407 t430)))) w.heap.size (fun k_ => some k_ ≠ (.slice Ao63 t401.length co63 : Value).ownBlock) (.slice Ao64 t404.length co64) t404) := ⟨by (with_reducible repeat (first | apply Kd.R_alloc | apply Kd.R_drewN | apply Kd.R_drew)); exact Kd.R_mono (Kd.R_far (p := ⟨go56, (t430 : Int).toNat, none⟩) (Kd.R_types HO406.out GG56.out (by decide)) (fun _ hk => hk.2) (.bool (!(rdOf false t407 t430)))) (fun _ hk => hk.1)⟩
    have n2_ : Aside0 (Kd.R Kd.bool 4 (w69.setCell ⟨go56, (t430 : Int).toNat, none⟩ (.bool (!(rdOf false t407 t430)))) w.heap.size (fun _ => True) (.slice (some ⟨go56, 0, none⟩) t407.length co65) y434) := ⟨by (with_reducible repeat (first | apply Kd.R_alloc | apply Kd.R_drewN | apply Kd.R_drew)); exact HQ70.out⟩
    have n3_ : Aside0 ((w69.setCell ⟨go56, (t430 : Int).toNat, none⟩ (.bool (!(rdOf false t407 t430)))).heap[gb399]? = some (.cells #[.int .i64 0, .slice none 0 0, .slice none 0 0, .slice none 0 0] 27 (0, 0))) := ⟨by (with_reducible repeat (first | refine blk_drewN ?_ _ | refine blk_drew ?_ | refine blk_alloc ?_ _)); refine blk_far ?_ (by have h_ := Kd.R_ne HO409.out BK399.out (by decide); intro e_; exact h_ (by rw [e_]; rfl)) _; exact bz_ BK399.out⟩
    have n4_ : Aside0 ((w69.setCell ⟨go56, (t430 : Int).toNat, none⟩ (.bool (!(rdOf false t407 t430)))).heap[gb412]? = some (.cells #[.int .i64 t400, .slice Ao63 t401.length co63, .slice Ao64 t404.length co64, .slice (some ⟨go56, 0, none⟩) t407.length co65] 27 (0, 0))) := ⟨by (with_reducible repeat (first | refine blk_drewN ?_ _ | refine blk_drew ?_ | refine blk_alloc ?_ _)); refine blk_far ?_ (by have h_ := Kd.R_ne HO409.out BK412.out (by decide); intro e_; exact h_ (by rw [e_]; rfl)) _; exact bz_ BK412.out⟩
    have n5_ : Aside0 (IsS96 w0 (w69.setCell ⟨go56, (t430 : Int).toNat, none⟩ (.bool (!(rdOf false t407 t430)))) g s0_0 t431 t432) := ⟨by repeat (first | (with_reducible first | exact HI0.out | apply IsS96.alloc | apply IsS96.drewN | apply IsS96.drew | apply IsS96.set_1 | apply IsS96.set_2 | refine IsS96.far ?_ HN0_go56.out _ | refine IsS96.far ?_ NB0_399.out _ | refine IsS96.far ?_ NB0_412.out _) | exact HI0.out)⟩
    have n6_ : Aside0 (KeepBut w (w69.setCell ⟨go56, (t430 : Int).toNat, none⟩ (.bool (!(rdOf false t407 t430)))) g none) := ⟨by repeat (first | (with_reducible first | exact HK.out | apply KeepBut.set_ | apply keep_drewN | apply keep_drew | apply keep_alloc | refine keep_far ?_ GB56.out _ | refine keep_far ?_ GW399.out _ | refine keep_far ?_ GW412.out _) | exact HK.out)⟩
    have n7_ : Aside0 (Below w0.heap.size w0 (w69.setCell ⟨go56, (t430 : Int).toNat, none⟩ (.bool (!(rdOf false t407 t430))))) := ⟨by repeat (first | (with_reducible first | exact HB.out | apply below_alloc | apply pw_below_drewN | apply below_drew1 | refine below_set ?_ (Nat.le_trans HL.out GB56.out) | refine below_set ?_ (IsS96.ge HI0.out) | refine below_set ?_ GE399.out | refine below_set ?_ GE412.out) | exact HB.out)⟩
    (try clear HO403)
    (try clear HO406)
    (try clear HO409)
    (try clear BK399)
    (try clear BK412)
    (try clear HI0)
    (try clear HK)
    (try clear HB)
    generalize (w69.setCell ⟨go56, (t430 : Int).toNat, none⟩ (.bool (!(rdOf false t407 t430)))) = w71 at n0_ n1_ n2_ n3_ n4_ n5_ n6_ n7_ ⊢
    have HO403 := n0_
    have HO406 := n1_
    have HO409 := n2_
    have BK399 := n3_
    have BK412 := n4_
    have HI0 := n5_
    have HK := n6_
    have HB := n7_
    clear n0_ n1_ n2_ n3_ n4_ n5_ n6_ n7_
    obtain ⟨hcz72_0, hcz72_1, hcz72_2, hcz72_3, hfz72_0, hfz72_1, hfz72_2, hfz72_3⟩ := bf4_ BK412.out
    have hnb73 := NB399_0.out
    have hnc73 := NB0_399.out
    obtain ⟨hcz74_0, hcz74_1, hcz74_2, hcz74_3, hfz74_0, hfz74_1, hfz74_2, hfz74_3⟩ := bf4_ BK399.out
    try go_wp2
    refine bodyPost_ret (results_cell_row rfl _ _ gb399 27 #[.int .i64 t400, .slice Ao63 t401.length co63, .slice Ao64 t404.length co64, .slice (some ⟨go56, 0, none⟩) t407.length co65] (0, 0) _ rfl (by (with_reducible repeat (first | refine blk_drewN ?_ _ | refine blk_drew ?_ | refine blk_alloc ?_ _)); refine blk_put (cs := #[.int .i64 t400, .slice Ao63 t401.length co63, .slice Ao64 t404.length co64, .slice none 0 0]) ?_ 3 _ rfl; (with_reducible repeat (first | refine blk_drewN ?_ _ | refine blk_drew ?_ | refine blk_alloc ?_ _)); refine blk_put (cs := #[.int .i64 t400, .slice Ao63 t401.length co63, .slice none 0 0, .slice none 0 0]) ?_ 2 _ rfl; (with_reducible repeat (first | refine blk_drewN ?_ _ | refine blk_drew ?_ | refine blk_alloc ?_ _)); refine blk_put (cs := #[.int .i64 t400, .slice none 0 0, .slice none 0 0, .slice none 0 0]) ?_ 1 _ rfl; (with_reducible repeat (first | refine blk_drewN ?_ _ | refine blk_drew ?_ | refine blk_alloc ?_ _)); refine blk_put (cs := #[.int .i64 0, .slice none 0 0, .slice none 0 0, .slice none 0 0]) ?_ 0 _ rfl; exact bz_ BK399.out) Try.underlying27 rfl (by kernel_rfl)) rfl ?_
    exact ⟨_, _, _, an_, by (with_reducible repeat (first | apply Kd.R_alloc | apply Kd.R_drewN | apply Kd.R_drew)); exact rf_ HO403.out BK399.out, by (with_reducible repeat (first | apply Kd.R_alloc | apply Kd.R_drewN | apply Kd.R_drew)); exact rf_ HO406.out BK399.out, by (with_reducible repeat (first | apply Kd.R_alloc | apply Kd.R_drewN | apply Kd.R_drew)); exact Kd.R_mono (Kd.R_far (p := ⟨gb399, 3, none⟩) (Kd.R_far (p := ⟨gb399, 2, none⟩) (Kd.R_far (p := ⟨gb399, 1, none⟩) (Kd.R_far (p := ⟨gb399, 0, none⟩) (Kd.R_types HO409.out BK399.out (by decide)) (fun _ hk => hk.2) (.int .i64 t400)) (fun _ hk => hk.2) (.slice Ao63 t401.length co63)) (fun _ hk => hk.2) (.slice Ao64 t404.length co64)) (fun _ hk => hk.2) (.slice (some ⟨go56, 0, none⟩) t407.length co65)) (fun _ hk => trivial), by repeat (first | (with_reducible first | exact HI0.out | apply IsS96.alloc | apply IsS96.drewN | apply IsS96.drew | apply IsS96.set_1 | apply IsS96.set_2 | refine IsS96.far ?_ NB0_399.out _ | refine IsS96.far ?_ NB0_412.out _) | exact HI0.out), by repeat (first | (with_reducible first | exact HB.out | apply below_alloc | apply pw_below_drewN | apply below_drew1 | refine below_set ?_ (IsS96.ge HI0.out) | refine below_set ?_ GE399.out | refine below_set ?_ GE412.out) | exact HB.out), by repeat (first | (with_reducible first | exact HK.out | apply KeepBut.set_ | apply keep_drewN | apply keep_drew | apply keep_alloc | refine keep_far ?_ GW399.out _ | refine keep_far ?_ GW412.out _) | exact HK.out)⟩
   rw [if_neg c55] at H
   exact absurd H (by simp)
  rw [if_neg c54] at H
  exact absurd H (by simp)
 rw [if_neg c52] at H
 have c52b0 : (t413 == 2) = false := beq_eq_false_iff_ne.mpr c52
 have c52b1 : (t413 != 2) = true := bne_iff_ne.mpr c52
 by_cases c75 : t413 = 3
 ·rw [if_pos c75] at H
  have c75b0 : (t413 == 3) = true := beq_iff_eq.mpr c75
  have c75b1 : (t413 != 3) = false := bne_eq_false_iff_eq.mpr c75
  clear c75
  replace H := Option.bind_eq_some_iff.mp H
  obtain ⟨⟨t435, t436, t437⟩, A760, H⟩ := H
  try dsimp only at H
  have A76 := sd_ A760
  clear A760
  simp only [Option.some.injEq, Prod.mk.injEq] at H
  obtain ⟨rfl, rfl, rfl, rfl, rfl, rfl⟩ := H
  go_enter Try.func96, Try.ntmps96
  go_wp2_with (first | ((with_reducible refine gate_dst (N := 2) rfl ?_); refine bx_ (N := 2) (cs := #[.int .i64 0, .slice none 0 0, .slice none 0 0, .slice none 0 0]) (t := 27) ?_; intro gb399 hg w77 hbox hb; replace HB := sd_ (below_step (by repeat (first | (with_reducible first | exact HB.out | apply below_alloc | apply pw_below_drewN | apply below_drew1 | refine below_set ?_ (IsS96.ge HI0.out)) | exact HB.out)) hb); have BK399 := sd_ (hbox); have GW399 := sd_ ((by rw [hg]; exact (keep_size (w := w) (g := g) (row := none) (by repeat (first | (with_reducible first | exact HK.out | apply KeepBut.set_ | apply keep_drewN | apply keep_drew | apply keep_alloc) | exact HK.out))) : w.heap.size ≤ gb399)); have GE399 := sd_ ((Nat.le_trans HW0.out (by rw [hg]; exact (keep_size (w := w) (g := g) (row := none) (by repeat (first | (with_reducible first | exact HK.out | apply KeepBut.set_ | apply keep_drewN | apply keep_drew | apply keep_alloc) | exact HK.out))) : w.heap.size ≤ gb399) : w0.heap.size ≤ gb399)); replace HK := sd_ (KeepBut.trans (by repeat (first | (with_reducible first | exact HK.out | apply KeepBut.set_ | apply keep_drewN | apply keep_drew | apply keep_alloc) | exact HK.out)) (KeepBut.of_below hb g none) (.inl rfl)); have NB0_399 := sd_ ((by rw [hg]; exact Nat.ne_of_lt (IsS96.lt (show IsS96 w0 _ g s0_0 s0_1 s0_2 from by repeat (first | (with_reducible first | exact HI0.out | apply IsS96.alloc | apply IsS96.drewN | apply IsS96.drew | apply IsS96.set_1 | apply IsS96.set_2) | exact HI0.out))) : g ≠ gb399)); have NB399_0 := sd_ ((by rw [hg]; exact Nat.ne_of_gt (IsS96.lt (show IsS96 w0 _ g s0_0 s0_1 s0_2 from by repeat (first | (with_reducible first | exact HI0.out | apply IsS96.alloc | apply IsS96.drewN | apply IsS96.drew | apply IsS96.set_1 | apply IsS96.set_2) | exact HI0.out))) : gb399 ≠ g)); replace HI0 := sd_ (IsS96.below (by repeat (first | (with_reducible first | exact HI0.out | apply IsS96.alloc | apply IsS96.drewN | apply IsS96.drew | apply IsS96.set_1 | apply IsS96.set_2) | exact HI0.out)) hb); clear hb hbox hg) | ((with_reducible refine gate_callee (f := 100) rfl ?_); refine goesL_ (some 6) rfl rfl Try.func100 (by kernel_rfl) rfl #[.pointer (some ⟨g, 0, none⟩)] rfl la_ ?_; (with_reducible refine (spec_dSystem.calls k g s0_0 s0_1 s0_2 t400 t401 t404 t407 t410 t411 w0 _ ?side1 ?side2 A2.out).mono ?_); (case side1 => repeat (first | (with_reducible first | exact HI0.out | apply IsS96.alloc | apply IsS96.drewN | apply IsS96.drew | apply IsS96.set_1 | apply IsS96.set_2 | refine IsS96.far ?_ NB0_399.out _) | exact HI0.out)); (case side2 => repeat (first | (with_reducible first | exact HB.out | apply below_alloc | apply pw_below_drewN | apply below_drew1 | refine below_set ?_ (IsS96.ge HI0.out) | refine below_set ?_ GE399.out) | exact HB.out)); rintro e w78 ⟨v402, v405, v408, rfl, ho0, ho1, ho2, hi, hb, hk⟩; refine ⟨_, rfl, ?_⟩; replace BK399 := sd_ (KeepBut.blk hk (g' := gb399) (o := .cells #[.int .i64 0, .slice none 0 0, .slice none 0 0, .slice none 0 0] 27 (0, 0)) (bz_ BK399.out) NB399_0.out (by simp)); have HO403 := sd_ (Kd.R_lower ho0 (keep_size (w := w) (g := g) (row := none) (by repeat (first | (with_reducible first | exact HK.out | apply KeepBut.set_ | apply keep_drewN | apply keep_drew | apply keep_alloc | refine keep_far ?_ GW399.out _) | exact HK.out)))); have HO406 := sd_ (Kd.R_lower ho1 (keep_size (w := w) (g := g) (row := none) (by repeat (first | (with_reducible first | exact HK.out | apply KeepBut.set_ | apply keep_drewN | apply keep_drew | apply keep_alloc | refine keep_far ?_ GW399.out _) | exact HK.out)))); have HO409 := sd_ (Kd.R_lower ho2 (keep_size (w := w) (g := g) (row := none) (by repeat (first | (with_reducible first | exact HK.out | apply KeepBut.set_ | apply keep_drewN | apply keep_drew | apply keep_alloc | refine keep_far ?_ GW399.out _) | exact HK.out)))); replace HK := sd_ (KeepBut.trans (by repeat (first | (with_reducible first | exact HK.out | apply KeepBut.set_ | apply keep_drewN | apply keep_drew | apply keep_alloc | refine keep_far ?_ GW399.out _) | exact HK.out)) hk (.inl rfl)); replace HB := sd_ (hb); replace HI0 := sd_ (hi); (try clear hb); (try clear hk); (try clear hi); (try clear ho0); (try clear ho1); (try clear ho2)) | ((with_reducible refine gate_dst (N := 3) rfl ?_); refine bx_ (N := 3) (cs := #[.int .i64 0, .slice none 0 0, .slice none 0 0, .slice none 0 0]) (t := 27) ?_; intro gb412 hg w79 hbox hb; replace HO403 := sd_ (Kd.R_below (ro_ HO403.out) hb); replace HO406 := sd_ (Kd.R_below (ro_ HO406.out) hb); replace HO409 := sd_ (Kd.R_below (ro_ HO409.out) hb); replace HB := sd_ (below_step (by repeat (first | (with_reducible first | exact HB.out | apply below_alloc | apply pw_below_drewN | apply below_drew1 | refine below_set ?_ (IsS96.ge HI0.out) | refine below_set ?_ GE399.out) | exact HB.out)) hb); have BK412 := sd_ (hbox); have GW412 := sd_ ((by rw [hg]; exact (keep_size (w := w) (g := g) (row := none) (by repeat (first | (with_reducible first | exact HK.out | apply KeepBut.set_ | apply keep_drewN | apply keep_drew | apply keep_alloc | refine keep_far ?_ GW399.out _) | exact HK.out))) : w.heap.size ≤ gb412)); have GE412 := sd_ ((Nat.le_trans HW0.out (by rw [hg]; exact (keep_size (w := w) (g := g) (row := none) (by repeat (first | (with_reducible first | exact HK.out | apply KeepBut.set_ | apply keep_drewN | apply keep_drew | apply keep_alloc | refine keep_far ?_ GW399.out _) | exact HK.out))) : w.heap.size ≤ gb412) : w0.heap.size ≤ gb412)); replace HK := sd_ (KeepBut.trans (by repeat (first | (with_reducible first | exact HK.out | apply KeepBut.set_ | apply keep_drewN | apply keep_drew | apply keep_alloc | refine keep_far ?_ GW399.out _) | exact HK.out)) (KeepBut.of_below hb g none) (.inl rfl)); have NB399_412 := sd_ (nl_ hg (bl_ BK399.out)); have NB412_399 := sd_ (ng_ hg (bl_ BK399.out)); replace BK399 := sd_ (bb_ BK399.out hb); have NB0_412 := sd_ ((by rw [hg]; exact Nat.ne_of_lt (IsS96.lt (show IsS96 w0 _ g s0_0 t410 t411 from by repeat (first | (with_reducible first | exact HI0.out | apply IsS96.alloc | apply IsS96.drewN | apply IsS96.drew | apply IsS96.set_1 | apply IsS96.set_2 | refine IsS96.far ?_ NB0_399.out _) | exact HI0.out))) : g ≠ gb412)); have NB412_0 := sd_ ((by rw [hg]; exact Nat.ne_of_gt (IsS96.lt (show IsS96 w0 _ g s0_0 t410 t411 from by repeat (first | (with_reducible first | exact HI0.out | apply IsS96.alloc | apply IsS96.drewN | apply IsS96.drew | apply IsS96.set_1 | apply IsS96.set_2 | refine IsS96.far ?_ NB0_399.out _) | exact HI0.out))) : gb412 ≠ g)); replace HI0 := sd_ (IsS96.below (by repeat (first | (with_reducible first | exact HI0.out | apply IsS96.alloc | apply IsS96.drewN | apply IsS96.drew | apply IsS96.set_1 | apply IsS96.set_2 | refine IsS96.far ?_ NB0_399.out _) | exact HI0.out)) hb); clear hb hbox hg; have hnb80 := NB412_399.out; have hnc80 := NB399_412.out; have hnb81 := NB412_0.out; have hnc81 := NB0_412.out; obtain ⟨hcz82_0, hcz82_1, hcz82_2, hcz82_3, hfz82_0, hfz82_1, hfz82_2, hfz82_3⟩ := bf4_ BK412.out; obtain ⟨Ao83, co83, eo83⟩ := Kd.R_slice HO403.out; subst eo83; obtain ⟨Ao84, co84, eo84⟩ := Kd.R_slice HO406.out; subst eo84; obtain ⟨Ao85, co85, eo85⟩ := Kd.R_slice HO409.out; subst eo85) | ((with_reducible refine gate_callee (f := 112) rfl ?_); refine goesL_ (some 8) rfl rfl Try.func112 (by kernel_rfl) rfl #[.pointer (some ⟨g, 0, none⟩), .int .i64 9] rfl la_ ?_; (with_reducible refine (spec_l1Below.calls g s0_0 t410 t411 9 t413 t414 t415 w0 _ ?side1 ?side2 A3.out).mono ?_); (case side1 => repeat (first | (with_reducible first | exact HI0.out | apply IsS96.alloc | apply IsS96.drewN | apply IsS96.drew | apply IsS96.set_1 | apply IsS96.set_2 | refine IsS96.far ?_ NB0_399.out _ | refine IsS96.far ?_ NB0_412.out _) | exact HI0.out)); (case side2 => repeat (first | (with_reducible first | exact HB.out | apply below_alloc | apply pw_below_drewN | apply below_drew1 | refine below_set ?_ (IsS96.ge HI0.out) | refine below_set ?_ GE399.out | refine below_set ?_ GE412.out) | exact HB.out)); rintro e w86 ⟨rfl, hi, hb, hk⟩; refine ⟨_, rfl, ?_⟩; replace BK399 := sd_ (KeepBut.blk hk (g' := gb399) (o := .cells #[.int .i64 0, .slice none 0 0, .slice none 0 0, .slice none 0 0] 27 (0, 0)) (by exact zf1_ BK399.out NB399_412.out) NB399_0.out (by simp)); replace HO403 := sd_ (Kd.R_mono (Kd.R_keep (IsS96.apart (show IsS96 w0 _ g s0_0 t410 t411 from by repeat (first | (with_reducible first | exact HI0.out | apply IsS96.alloc | apply IsS96.drewN | apply IsS96.drew | apply IsS96.set_1 | apply IsS96.set_2 | refine IsS96.far ?_ NB0_399.out _ | refine IsS96.far ?_ NB0_412.out _) | exact HI0.out)) (by (with_reducible repeat (first | apply Kd.R_alloc | apply Kd.R_drewN | apply Kd.R_drew)); exact (rf_ HO403.out BK412.out)) (by decide)) hk (fun _ h => h.2)) (fun _ h => h.1)); replace HO406 := sd_ (Kd.R_mono (Kd.R_keep (IsS96.apart (show IsS96 w0 _ g s0_0 t410 t411 from by repeat (first | (with_reducible first | exact HI0.out | apply IsS96.alloc | apply IsS96.drewN | apply IsS96.drew | apply IsS96.set_1 | apply IsS96.set_2 | refine IsS96.far ?_ NB0_399.out _ | refine IsS96.far ?_ NB0_412.out _) | exact HI0.out)) (by (with_reducible repeat (first | apply Kd.R_alloc | apply Kd.R_drewN | apply Kd.R_drew)); exact (rf_ HO406.out BK412.out)) (by decide)) hk (fun _ h => h.2)) (fun _ h => h.1)); replace HO409 := sd_ (Kd.R_mono (Kd.R_keep (IsS96.apart (show IsS96 w0 _ g s0_0 t410 t411 from by repeat (first | (with_reducible first | exact HI0.out | apply IsS96.alloc | apply IsS96.drewN | apply IsS96.drew | apply IsS96.set_1 | apply IsS96.set_2 | refine IsS96.far ?_ NB0_399.out _ | refine IsS96.far ?_ NB0_412.out _) | exact HI0.out)) (by (with_reducible repeat (first | apply Kd.R_alloc | apply Kd.R_drewN | apply Kd.R_drew)); exact (rf_ HO409.out BK412.out)) (by decide)) hk (fun _ h => h.2)) (fun _ h => h.1)); replace BK412 := sd_ (KeepBut.blk hk (g' := gb412) (o := .cells #[.int .i64 t400, .slice Ao83 t401.length co83, .slice Ao84 t404.length co84, .slice Ao85 t407.length co85] 27 (0, 0)) (by (with_reducible repeat (first | refine blk_drewN ?_ _ | refine blk_drew ?_ | refine blk_alloc ?_ _)); refine blk_put (cs := #[.int .i64 t400, .slice Ao83 t401.length co83, .slice Ao84 t404.length co84, .slice none 0 0]) ?_ 3 _ rfl; (with_reducible repeat (first | refine blk_drewN ?_ _ | refine blk_drew ?_ | refine blk_alloc ?_ _)); refine blk_put (cs := #[.int .i64 t400, .slice Ao83 t401.length co83, .slice none 0 0, .slice none 0 0]) ?_ 2 _ rfl; (with_reducible repeat (first | refine blk_drewN ?_ _ | refine blk_drew ?_ | refine blk_alloc ?_ _)); refine blk_put (cs := #[.int .i64 t400, .slice none 0 0, .slice none 0 0, .slice none 0 0]) ?_ 1 _ rfl; (with_reducible repeat (first | refine blk_drewN ?_ _ | refine blk_drew ?_ | refine blk_alloc ?_ _)); refine blk_put (cs := #[.int .i64 0, .slice none 0 0, .slice none 0 0, .slice none 0 0]) ?_ 0 _ rfl; exact bz_ BK412.out) NB412_0.out (by simp)); replace HK := sd_ (KeepBut.trans (by repeat (first | (with_reducible first | exact HK.out | apply KeepBut.set_ | apply keep_drewN | apply keep_drew | apply keep_alloc | refine keep_far ?_ GW399.out _ | refine keep_far ?_ GW412.out _) | exact HK.out)) hk (.inl rfl)); replace HB := sd_ (hb); replace HI0 := sd_ (hi); (try clear hb); (try clear hk); (try clear hi)) | ((with_reducible refine gate_callee (f := 124) rfl ?_); refine goesL_ (some 58) rfl rfl Try.func124 (by kernel_rfl) rfl #[.pointer (some ⟨g, 0, none⟩)] rfl la_ ?_; (with_reducible refine (spec_dBent.calls g s0_0 t414 t415 t435 t436 t437 w0 _ ?side1 ?side2 A76.out).mono ?_); (case side1 => repeat (first | (with_reducible first | exact HI0.out | apply IsS96.alloc | apply IsS96.drewN | apply IsS96.drew | apply IsS96.set_1 | apply IsS96.set_2 | refine IsS96.far ?_ NB0_399.out _ | refine IsS96.far ?_ NB0_412.out _) | exact HI0.out)); (case side2 => repeat (first | (with_reducible first | exact HB.out | apply below_alloc | apply pw_below_drewN | apply below_drew1 | refine below_set ?_ (IsS96.ge HI0.out) | refine below_set ?_ GE399.out | refine below_set ?_ GE412.out) | exact HB.out)); rintro e w87 ⟨rfl, hi, hb, hk⟩; refine ⟨_, rfl, ?_⟩; replace BK399 := sd_ (KeepBut.blk hk (g' := gb399) (o := .cells #[.int .i64 0, .slice none 0 0, .slice none 0 0, .slice none 0 0] 27 (0, 0)) (bz_ BK399.out) NB399_0.out (by simp)); replace HO403 := sd_ (Kd.R_mono (Kd.R_keep (IsS96.apart (show IsS96 w0 _ g s0_0 t414 t415 from by repeat (first | (with_reducible first | exact HI0.out | apply IsS96.alloc | apply IsS96.drewN | apply IsS96.drew | apply IsS96.set_1 | apply IsS96.set_2 | refine IsS96.far ?_ NB0_399.out _ | refine IsS96.far ?_ NB0_412.out _) | exact HI0.out)) (ro_ HO403.out) (by decide)) hk (fun _ h => h.2)) (fun _ h => h.1)); replace HO406 := sd_ (Kd.R_mono (Kd.R_keep (IsS96.apart (show IsS96 w0 _ g s0_0 t414 t415 from by repeat (first | (with_reducible first | exact HI0.out | apply IsS96.alloc | apply IsS96.drewN | apply IsS96.drew | apply IsS96.set_1 | apply IsS96.set_2 | refine IsS96.far ?_ NB0_399.out _ | refine IsS96.far ?_ NB0_412.out _) | exact HI0.out)) (ro_ HO406.out) (by decide)) hk (fun _ h => h.2)) (fun _ h => h.1)); replace HO409 := sd_ (Kd.R_mono (Kd.R_keep (IsS96.apart (show IsS96 w0 _ g s0_0 t414 t415 from by repeat (first | (with_reducible first | exact HI0.out | apply IsS96.alloc | apply IsS96.drewN | apply IsS96.drew | apply IsS96.set_1 | apply IsS96.set_2 | refine IsS96.far ?_ NB0_399.out _ | refine IsS96.far ?_ NB0_412.out _) | exact HI0.out)) (ro_ HO409.out) (by decide)) hk (fun _ h => h.2)) (fun _ h => h.1)); replace BK412 := sd_ (KeepBut.blk hk (g' := gb412) (o := .cells #[.int .i64 t400, .slice Ao83 t401.length co83, .slice Ao84 t404.length co84, .slice Ao85 t407.length co85] 27 (0, 0)) (bz_ BK412.out) NB412_0.out (by simp)); replace HK := sd_ (KeepBut.trans (by repeat (first | (with_reducible first | exact HK.out | apply KeepBut.set_ | apply keep_drewN | apply keep_drew | apply keep_alloc | refine keep_far ?_ GW399.out _ | refine keep_far ?_ GW412.out _) | exact HK.out)) hk (.inl rfl)); replace HB := sd_ (hb); replace HI0 := sd_ (hi); (try clear hb); (try clear hk); (try clear hi); obtain ⟨hcz88_0, hcz88_1, hcz88_2, hcz88_3, hfz88_0, hfz88_1, hfz88_2, hfz88_3⟩ := bf4_ BK412.out; have hnb89 := NB399_0.out; have hnc89 := NB0_399.out; obtain ⟨hcz90_0, hcz90_1, hcz90_2, hcz90_3, hfz90_0, hfz90_1, hfz90_2, hfz90_3⟩ := bf4_ BK399.out))
  refine bodyPost_ret (results_cell_row rfl _ _ gb399 27 #[.int .i64 t435, .slice Ao83 t401.length co83, .slice Ao84 t404.length co84, .slice Ao85 t407.length co85] (0, 0) _ rfl (by (with_reducible repeat (first | refine blk_drewN ?_ _ | refine blk_drew ?_ | refine blk_alloc ?_ _)); refine blk_put (cs := #[.int .i64 t435, .slice Ao83 t401.length co83, .slice Ao84 t404.length co84, .slice none 0 0]) ?_ 3 _ rfl; (with_reducible repeat (first | refine blk_drewN ?_ _ | refine blk_drew ?_ | refine blk_alloc ?_ _)); refine blk_put (cs := #[.int .i64 t435, .slice Ao83 t401.length co83, .slice none 0 0, .slice none 0 0]) ?_ 2 _ rfl; (with_reducible repeat (first | refine blk_drewN ?_ _ | refine blk_drew ?_ | refine blk_alloc ?_ _)); refine blk_put (cs := #[.int .i64 t435, .slice none 0 0, .slice none 0 0, .slice none 0 0]) ?_ 1 _ rfl; (with_reducible repeat (first | refine blk_drewN ?_ _ | refine blk_drew ?_ | refine blk_alloc ?_ _)); refine blk_put (cs := #[.int .i64 0, .slice none 0 0, .slice none 0 0, .slice none 0 0]) ?_ 0 _ rfl; exact zf1_ BK399.out NB399_412.out) Try.underlying27 rfl (by kernel_rfl)) rfl ?_
  exact ⟨_, _, _, an_, by (with_reducible repeat (first | apply Kd.R_alloc | apply Kd.R_drewN | apply Kd.R_drew)); exact Kd.R_mono (Kd.R_far (p := ⟨gb399, 3, none⟩) (Kd.R_far (p := ⟨gb399, 2, none⟩) (Kd.R_far (p := ⟨gb399, 1, none⟩) (Kd.R_far (p := ⟨gb399, 0, none⟩) (Kd.R_far (p := ⟨gb412, 0, none⟩) (Kd.R_types (Kd.R_types HO403.out BK412.out (by decide)) BK399.out (by decide)) (fun _ hk => hk.1.2) (.int .i64 t435)) (fun _ hk => hk.2) (.int .i64 t435)) (fun _ hk => hk.2) (.slice Ao83 t401.length co83)) (fun _ hk => hk.2) (.slice Ao84 t404.length co84)) (fun _ hk => hk.2) (.slice Ao85 t407.length co85)) (fun _ hk => hk.1.1), by (with_reducible repeat (first | apply Kd.R_alloc | apply Kd.R_drewN | apply Kd.R_drew)); exact Kd.R_mono (Kd.R_far (p := ⟨gb399, 3, none⟩) (Kd.R_far (p := ⟨gb399, 2, none⟩) (Kd.R_far (p := ⟨gb399, 1, none⟩) (Kd.R_far (p := ⟨gb399, 0, none⟩) (Kd.R_far (p := ⟨gb412, 0, none⟩) (Kd.R_types (Kd.R_types HO406.out BK412.out (by decide)) BK399.out (by decide)) (fun _ hk => hk.1.2) (.int .i64 t435)) (fun _ hk => hk.2) (.int .i64 t435)) (fun _ hk => hk.2) (.slice Ao83 t401.length co83)) (fun _ hk => hk.2) (.slice Ao84 t404.length co84)) (fun _ hk => hk.2) (.slice Ao85 t407.length co85)) (fun _ hk => hk.1.1), by (with_reducible repeat (first | apply Kd.R_alloc | apply Kd.R_drewN | apply Kd.R_drew)); exact Kd.R_mono (Kd.R_far (p := ⟨gb399, 3, none⟩) (Kd.R_far (p := ⟨gb399, 2, none⟩) (Kd.R_far (p := ⟨gb399, 1, none⟩) (Kd.R_far (p := ⟨gb399, 0, none⟩) (Kd.R_far (p := ⟨gb412, 0, none⟩) (Kd.R_types (Kd.R_types HO409.out BK412.out (by decide)) BK399.out (by decide)) (fun _ hk => hk.1.2) (.int .i64 t435)) (fun _ hk => hk.2) (.int .i64 t435)) (fun _ hk => hk.2) (.slice Ao83 t401.length co83)) (fun _ hk => hk.2) (.slice Ao84 t404.length co84)) (fun _ hk => hk.2) (.slice Ao85 t407.length co85)) (fun _ hk => trivial), by repeat (first | (with_reducible first | exact HI0.out | apply IsS96.alloc | apply IsS96.drewN | apply IsS96.drew | apply IsS96.set_1 | apply IsS96.set_2 | refine IsS96.far ?_ NB0_399.out _ | refine IsS96.far ?_ NB0_412.out _) | exact HI0.out), by repeat (first | (with_reducible first | exact HB.out | apply below_alloc | apply pw_below_drewN | apply below_drew1 | refine below_set ?_ (IsS96.ge HI0.out) | refine below_set ?_ GE399.out | refine below_set ?_ GE412.out) | exact HB.out), by repeat (first | (with_reducible first | exact HK.out | apply KeepBut.set_ | apply keep_drewN | apply keep_drew | apply keep_alloc | refine keep_far ?_ GW399.out _ | refine keep_far ?_ GW412.out _) | exact HK.out)⟩
 rw [if_neg c75] at H
 have c75b0 : (t413 == 3) = false := beq_eq_false_iff_ne.mpr c75
 have c75b1 : (t413 != 3) = true := bne_iff_ne.mpr c75
 simp only [Option.some.injEq, Prod.mk.injEq] at H
 obtain ⟨rfl, rfl, rfl, rfl, rfl, rfl⟩ := H
 go_enter Try.func96, Try.ntmps96
 go_wp2_with (first | ((with_reducible refine gate_dst (N := 2) rfl ?_); refine bx_ (N := 2) (cs := #[.int .i64 0, .slice none 0 0, .slice none 0 0, .slice none 0 0]) (t := 27) ?_; intro gb399 hg w91 hbox hb; replace HB := sd_ (below_step (by repeat (first | (with_reducible first | exact HB.out | apply below_alloc | apply pw_below_drewN | apply below_drew1 | refine below_set ?_ (IsS96.ge HI0.out)) | exact HB.out)) hb); have BK399 := sd_ (hbox); have GW399 := sd_ ((by rw [hg]; exact (keep_size (w := w) (g := g) (row := none) (by repeat (first | (with_reducible first | exact HK.out | apply KeepBut.set_ | apply keep_drewN | apply keep_drew | apply keep_alloc) | exact HK.out))) : w.heap.size ≤ gb399)); have GE399 := sd_ ((Nat.le_trans HW0.out (by rw [hg]; exact (keep_size (w := w) (g := g) (row := none) (by repeat (first | (with_reducible first | exact HK.out | apply KeepBut.set_ | apply keep_drewN | apply keep_drew | apply keep_alloc) | exact HK.out))) : w.heap.size ≤ gb399) : w0.heap.size ≤ gb399)); replace HK := sd_ (KeepBut.trans (by repeat (first | (with_reducible first | exact HK.out | apply KeepBut.set_ | apply keep_drewN | apply keep_drew | apply keep_alloc) | exact HK.out)) (KeepBut.of_below hb g none) (.inl rfl)); have NB0_399 := sd_ ((by rw [hg]; exact Nat.ne_of_lt (IsS96.lt (show IsS96 w0 _ g s0_0 s0_1 s0_2 from by repeat (first | (with_reducible first | exact HI0.out | apply IsS96.alloc | apply IsS96.drewN | apply IsS96.drew | apply IsS96.set_1 | apply IsS96.set_2) | exact HI0.out))) : g ≠ gb399)); have NB399_0 := sd_ ((by rw [hg]; exact Nat.ne_of_gt (IsS96.lt (show IsS96 w0 _ g s0_0 s0_1 s0_2 from by repeat (first | (with_reducible first | exact HI0.out | apply IsS96.alloc | apply IsS96.drewN | apply IsS96.drew | apply IsS96.set_1 | apply IsS96.set_2) | exact HI0.out))) : gb399 ≠ g)); replace HI0 := sd_ (IsS96.below (by repeat (first | (with_reducible first | exact HI0.out | apply IsS96.alloc | apply IsS96.drewN | apply IsS96.drew | apply IsS96.set_1 | apply IsS96.set_2) | exact HI0.out)) hb); clear hb hbox hg) | ((with_reducible refine gate_callee (f := 100) rfl ?_); refine goesL_ (some 6) rfl rfl Try.func100 (by kernel_rfl) rfl #[.pointer (some ⟨g, 0, none⟩)] rfl la_ ?_; (with_reducible refine (spec_dSystem.calls k g s0_0 s0_1 s0_2 t400 t401 t404 t407 t410 t411 w0 _ ?side1 ?side2 A2.out).mono ?_); (case side1 => repeat (first | (with_reducible first | exact HI0.out | apply IsS96.alloc | apply IsS96.drewN | apply IsS96.drew | apply IsS96.set_1 | apply IsS96.set_2 | refine IsS96.far ?_ NB0_399.out _) | exact HI0.out)); (case side2 => repeat (first | (with_reducible first | exact HB.out | apply below_alloc | apply pw_below_drewN | apply below_drew1 | refine below_set ?_ (IsS96.ge HI0.out) | refine below_set ?_ GE399.out) | exact HB.out)); rintro e w92 ⟨v402, v405, v408, rfl, ho0, ho1, ho2, hi, hb, hk⟩; refine ⟨_, rfl, ?_⟩; replace BK399 := sd_ (KeepBut.blk hk (g' := gb399) (o := .cells #[.int .i64 0, .slice none 0 0, .slice none 0 0, .slice none 0 0] 27 (0, 0)) (bz_ BK399.out) NB399_0.out (by simp)); have HO403 := sd_ (Kd.R_lower ho0 (keep_size (w := w) (g := g) (row := none) (by repeat (first | (with_reducible first | exact HK.out | apply KeepBut.set_ | apply keep_drewN | apply keep_drew | apply keep_alloc | refine keep_far ?_ GW399.out _) | exact HK.out)))); have HO406 := sd_ (Kd.R_lower ho1 (keep_size (w := w) (g := g) (row := none) (by repeat (first | (with_reducible first | exact HK.out | apply KeepBut.set_ | apply keep_drewN | apply keep_drew | apply keep_alloc | refine keep_far ?_ GW399.out _) | exact HK.out)))); have HO409 := sd_ (Kd.R_lower ho2 (keep_size (w := w) (g := g) (row := none) (by repeat (first | (with_reducible first | exact HK.out | apply KeepBut.set_ | apply keep_drewN | apply keep_drew | apply keep_alloc | refine keep_far ?_ GW399.out _) | exact HK.out)))); replace HK := sd_ (KeepBut.trans (by repeat (first | (with_reducible first | exact HK.out | apply KeepBut.set_ | apply keep_drewN | apply keep_drew | apply keep_alloc | refine keep_far ?_ GW399.out _) | exact HK.out)) hk (.inl rfl)); replace HB := sd_ (hb); replace HI0 := sd_ (hi); (try clear hb); (try clear hk); (try clear hi); (try clear ho0); (try clear ho1); (try clear ho2)) | ((with_reducible refine gate_dst (N := 3) rfl ?_); refine bx_ (N := 3) (cs := #[.int .i64 0, .slice none 0 0, .slice none 0 0, .slice none 0 0]) (t := 27) ?_; intro gb412 hg w93 hbox hb; replace HO403 := sd_ (Kd.R_below (ro_ HO403.out) hb); replace HO406 := sd_ (Kd.R_below (ro_ HO406.out) hb); replace HO409 := sd_ (Kd.R_below (ro_ HO409.out) hb); replace HB := sd_ (below_step (by repeat (first | (with_reducible first | exact HB.out | apply below_alloc | apply pw_below_drewN | apply below_drew1 | refine below_set ?_ (IsS96.ge HI0.out) | refine below_set ?_ GE399.out) | exact HB.out)) hb); have BK412 := sd_ (hbox); have GW412 := sd_ ((by rw [hg]; exact (keep_size (w := w) (g := g) (row := none) (by repeat (first | (with_reducible first | exact HK.out | apply KeepBut.set_ | apply keep_drewN | apply keep_drew | apply keep_alloc | refine keep_far ?_ GW399.out _) | exact HK.out))) : w.heap.size ≤ gb412)); have GE412 := sd_ ((Nat.le_trans HW0.out (by rw [hg]; exact (keep_size (w := w) (g := g) (row := none) (by repeat (first | (with_reducible first | exact HK.out | apply KeepBut.set_ | apply keep_drewN | apply keep_drew | apply keep_alloc | refine keep_far ?_ GW399.out _) | exact HK.out))) : w.heap.size ≤ gb412) : w0.heap.size ≤ gb412)); replace HK := sd_ (KeepBut.trans (by repeat (first | (with_reducible first | exact HK.out | apply KeepBut.set_ | apply keep_drewN | apply keep_drew | apply keep_alloc | refine keep_far ?_ GW399.out _) | exact HK.out)) (KeepBut.of_below hb g none) (.inl rfl)); have NB399_412 := sd_ (nl_ hg (bl_ BK399.out)); have NB412_399 := sd_ (ng_ hg (bl_ BK399.out)); replace BK399 := sd_ (bb_ BK399.out hb); have NB0_412 := sd_ ((by rw [hg]; exact Nat.ne_of_lt (IsS96.lt (show IsS96 w0 _ g s0_0 t410 t411 from by repeat (first | (with_reducible first | exact HI0.out | apply IsS96.alloc | apply IsS96.drewN | apply IsS96.drew | apply IsS96.set_1 | apply IsS96.set_2 | refine IsS96.far ?_ NB0_399.out _) | exact HI0.out))) : g ≠ gb412)); have NB412_0 := sd_ ((by rw [hg]; exact Nat.ne_of_gt (IsS96.lt (show IsS96 w0 _ g s0_0 t410 t411 from by repeat (first | (with_reducible first | exact HI0.out | apply IsS96.alloc | apply IsS96.drewN | apply IsS96.drew | apply IsS96.set_1 | apply IsS96.set_2 | refine IsS96.far ?_ NB0_399.out _) | exact HI0.out))) : gb412 ≠ g)); replace HI0 := sd_ (IsS96.below (by repeat (first | (with_reducible first | exact HI0.out | apply IsS96.alloc | apply IsS96.drewN | apply IsS96.drew | apply IsS96.set_1 | apply IsS96.set_2 | refine IsS96.far ?_ NB0_399.out _) | exact HI0.out)) hb); clear hb hbox hg; have hnb94 := NB412_399.out; have hnc94 := NB399_412.out; have hnb95 := NB412_0.out; have hnc95 := NB0_412.out; obtain ⟨hcz96_0, hcz96_1, hcz96_2, hcz96_3, hfz96_0, hfz96_1, hfz96_2, hfz96_3⟩ := bf4_ BK412.out; obtain ⟨Ao97, co97, eo97⟩ := Kd.R_slice HO403.out; subst eo97; obtain ⟨Ao98, co98, eo98⟩ := Kd.R_slice HO406.out; subst eo98; obtain ⟨Ao99, co99, eo99⟩ := Kd.R_slice HO409.out; subst eo99) | ((with_reducible refine gate_callee (f := 112) rfl ?_); refine goesL_ (some 8) rfl rfl Try.func112 (by kernel_rfl) rfl #[.pointer (some ⟨g, 0, none⟩), .int .i64 9] rfl la_ ?_; (with_reducible refine (spec_l1Below.calls g s0_0 t410 t411 9 t413 t414 t415 w0 _ ?side1 ?side2 A3.out).mono ?_); (case side1 => repeat (first | (with_reducible first | exact HI0.out | apply IsS96.alloc | apply IsS96.drewN | apply IsS96.drew | apply IsS96.set_1 | apply IsS96.set_2 | refine IsS96.far ?_ NB0_399.out _ | refine IsS96.far ?_ NB0_412.out _) | exact HI0.out)); (case side2 => repeat (first | (with_reducible first | exact HB.out | apply below_alloc | apply pw_below_drewN | apply below_drew1 | refine below_set ?_ (IsS96.ge HI0.out) | refine below_set ?_ GE399.out | refine below_set ?_ GE412.out) | exact HB.out)); rintro e w100 ⟨rfl, hi, hb, hk⟩; refine ⟨_, rfl, ?_⟩; replace BK399 := sd_ (KeepBut.blk hk (g' := gb399) (o := .cells #[.int .i64 0, .slice none 0 0, .slice none 0 0, .slice none 0 0] 27 (0, 0)) (by exact zf1_ BK399.out NB399_412.out) NB399_0.out (by simp)); replace HO403 := sd_ (Kd.R_mono (Kd.R_keep (IsS96.apart (show IsS96 w0 _ g s0_0 t410 t411 from by repeat (first | (with_reducible first | exact HI0.out | apply IsS96.alloc | apply IsS96.drewN | apply IsS96.drew | apply IsS96.set_1 | apply IsS96.set_2 | refine IsS96.far ?_ NB0_399.out _ | refine IsS96.far ?_ NB0_412.out _) | exact HI0.out)) (by (with_reducible repeat (first | apply Kd.R_alloc | apply Kd.R_drewN | apply Kd.R_drew)); exact (rf_ HO403.out BK412.out)) (by decide)) hk (fun _ h => h.2)) (fun _ h => h.1)); replace HO406 := sd_ (Kd.R_mono (Kd.R_keep (IsS96.apart (show IsS96 w0 _ g s0_0 t410 t411 from by repeat (first | (with_reducible first | exact HI0.out | apply IsS96.alloc | apply IsS96.drewN | apply IsS96.drew | apply IsS96.set_1 | apply IsS96.set_2 | refine IsS96.far ?_ NB0_399.out _ | refine IsS96.far ?_ NB0_412.out _) | exact HI0.out)) (by (with_reducible repeat (first | apply Kd.R_alloc | apply Kd.R_drewN | apply Kd.R_drew)); exact (rf_ HO406.out BK412.out)) (by decide)) hk (fun _ h => h.2)) (fun _ h => h.1)); replace HO409 := sd_ (Kd.R_mono (Kd.R_keep (IsS96.apart (show IsS96 w0 _ g s0_0 t410 t411 from by repeat (first | (with_reducible first | exact HI0.out | apply IsS96.alloc | apply IsS96.drewN | apply IsS96.drew | apply IsS96.set_1 | apply IsS96.set_2 | refine IsS96.far ?_ NB0_399.out _ | refine IsS96.far ?_ NB0_412.out _) | exact HI0.out)) (by (with_reducible repeat (first | apply Kd.R_alloc | apply Kd.R_drewN | apply Kd.R_drew)); exact (rf_ HO409.out BK412.out)) (by decide)) hk (fun _ h => h.2)) (fun _ h => h.1)); replace BK412 := sd_ (KeepBut.blk hk (g' := gb412) (o := .cells #[.int .i64 t400, .slice Ao97 t401.length co97, .slice Ao98 t404.length co98, .slice Ao99 t407.length co99] 27 (0, 0)) (by (with_reducible repeat (first | refine blk_drewN ?_ _ | refine blk_drew ?_ | refine blk_alloc ?_ _)); refine blk_put (cs := #[.int .i64 t400, .slice Ao97 t401.length co97, .slice Ao98 t404.length co98, .slice none 0 0]) ?_ 3 _ rfl; (with_reducible repeat (first | refine blk_drewN ?_ _ | refine blk_drew ?_ | refine blk_alloc ?_ _)); refine blk_put (cs := #[.int .i64 t400, .slice Ao97 t401.length co97, .slice none 0 0, .slice none 0 0]) ?_ 2 _ rfl; (with_reducible repeat (first | refine blk_drewN ?_ _ | refine blk_drew ?_ | refine blk_alloc ?_ _)); refine blk_put (cs := #[.int .i64 t400, .slice none 0 0, .slice none 0 0, .slice none 0 0]) ?_ 1 _ rfl; (with_reducible repeat (first | refine blk_drewN ?_ _ | refine blk_drew ?_ | refine blk_alloc ?_ _)); refine blk_put (cs := #[.int .i64 0, .slice none 0 0, .slice none 0 0, .slice none 0 0]) ?_ 0 _ rfl; exact bz_ BK412.out) NB412_0.out (by simp)); replace HK := sd_ (KeepBut.trans (by repeat (first | (with_reducible first | exact HK.out | apply KeepBut.set_ | apply keep_drewN | apply keep_drew | apply keep_alloc | refine keep_far ?_ GW399.out _ | refine keep_far ?_ GW412.out _) | exact HK.out)) hk (.inl rfl)); replace HB := sd_ (hb); replace HI0 := sd_ (hi); (try clear hb); (try clear hk); (try clear hi); obtain ⟨hcz101_0, hcz101_1, hcz101_2, hcz101_3, hfz101_0, hfz101_1, hfz101_2, hfz101_3⟩ := bf4_ BK412.out; have hnb102 := NB399_0.out; have hnc102 := NB0_399.out; obtain ⟨hcz103_0, hcz103_1, hcz103_2, hcz103_3, hfz103_0, hfz103_1, hfz103_2, hfz103_3⟩ := bf4_ BK399.out))
 refine bodyPost_ret (results_cell_row rfl _ _ gb399 27 #[.int .i64 t400, .slice Ao97 t401.length co97, .slice Ao98 t404.length co98, .slice Ao99 t407.length co99] (0, 0) _ rfl (by (with_reducible repeat (first | refine blk_drewN ?_ _ | refine blk_drew ?_ | refine blk_alloc ?_ _)); refine blk_put (cs := #[.int .i64 t400, .slice Ao97 t401.length co97, .slice Ao98 t404.length co98, .slice none 0 0]) ?_ 3 _ rfl; (with_reducible repeat (first | refine blk_drewN ?_ _ | refine blk_drew ?_ | refine blk_alloc ?_ _)); refine blk_put (cs := #[.int .i64 t400, .slice Ao97 t401.length co97, .slice none 0 0, .slice none 0 0]) ?_ 2 _ rfl; (with_reducible repeat (first | refine blk_drewN ?_ _ | refine blk_drew ?_ | refine blk_alloc ?_ _)); refine blk_put (cs := #[.int .i64 t400, .slice none 0 0, .slice none 0 0, .slice none 0 0]) ?_ 1 _ rfl; (with_reducible repeat (first | refine blk_drewN ?_ _ | refine blk_drew ?_ | refine blk_alloc ?_ _)); refine blk_put (cs := #[.int .i64 0, .slice none 0 0, .slice none 0 0, .slice none 0 0]) ?_ 0 _ rfl; exact bz_ BK399.out) Try.underlying27 rfl (by kernel_rfl)) rfl ?_
 exact ⟨_, _, _, an_, by (with_reducible repeat (first | apply Kd.R_alloc | apply Kd.R_drewN | apply Kd.R_drew)); exact rf_ HO403.out BK399.out, by (with_reducible repeat (first | apply Kd.R_alloc | apply Kd.R_drewN | apply Kd.R_drew)); exact rf_ HO406.out BK399.out, by (with_reducible repeat (first | apply Kd.R_alloc | apply Kd.R_drewN | apply Kd.R_drew)); exact Kd.R_mono (Kd.R_far (p := ⟨gb399, 3, none⟩) (Kd.R_far (p := ⟨gb399, 2, none⟩) (Kd.R_far (p := ⟨gb399, 1, none⟩) (Kd.R_far (p := ⟨gb399, 0, none⟩) (Kd.R_types HO409.out BK399.out (by decide)) (fun _ hk => hk.2) (.int .i64 t400)) (fun _ hk => hk.2) (.slice Ao97 t401.length co97)) (fun _ hk => hk.2) (.slice Ao98 t404.length co98)) (fun _ hk => hk.2) (.slice Ao99 t407.length co99)) (fun _ hk => trivial), by repeat (first | (with_reducible first | exact HI0.out | apply IsS96.alloc | apply IsS96.drewN | apply IsS96.drew | apply IsS96.set_1 | apply IsS96.set_2 | refine IsS96.far ?_ NB0_399.out _ | refine IsS96.far ?_ NB0_412.out _) | exact HI0.out), by repeat (first | (with_reducible first | exact HB.out | apply below_alloc | apply pw_below_drewN | apply below_drew1 | refine below_set ?_ (IsS96.ge HI0.out) | refine below_set ?_ GE399.out | refine below_set ?_ GE412.out) | exact HB.out), by repeat (first | (with_reducible first | exact HK.out | apply KeepBut.set_ | apply keep_drewN | apply keep_drew | apply keep_alloc | refine keep_far ?_ GW399.out _ | refine keep_far ?_ GW412.out _) | exact HK.out)⟩

end Go.Proofs.Ytcdmnofomoadlaa.P
