-- Printed by this session's own program (wip/tools/mkprint.py) out of the translation. Not trusted: Lean checks it.
import Derived.Test.YtcdmnofomoadlaaP0
import Derived.Test.YtcdmnofomoadlaaPf18
import Derived.Test.YtcdmnofomoadlaaPf22
import Derived.Test.YtcdmnofomoadlaaPf24
import Derived.Test.YtcdmnofomoadlaaPf25
import Derived.Test.YtcdmnofomoadlaaPf26
/-! short words -/
namespace Go.Proofs.Ytcdmnofomoadlaa.P
open Go.RowKit Go.Proofs.YtcdmnofomoadlaaW.PrintWords Go.Proofs.YtcdmnofomoadlaaW.PrintLast Go.Proofs.YtcdmnofomoadlaaW.PrintMore
attribute [local go_sem] max2_int min2_int max_two min_two max_three min_three max_four min_four   -- for this text's walks alone
set_option linter.unusedVariables false
set_option linter.unusedSimpArgs false

/-! ### laws_FnExactPartsOfGrade: function 5 -/
def laws_FnExactPartsOfGrade.j0 : Nat → Bool → Int → List Int → List Int → List Bool → Int → List Int → List Int → List Bool → Int → List Int → List Int → List Bool → Int → List Int → List Int → List Bool → Option (Bool)
 | 0, _, _, _, _, _, _, _, _, _, _, _, _, _, _, _, _, _ => none
 | k + 1, x51, x589000, x589001, x589002, x589003, x590000, x590001, x590002, x590003, x625000, x625001, x625002, x625003, x636000, x636001, x636002, x636003 => if x51 = true then (some false) else ((laws_toSystem.f k x589000 x589001 x589002 x589003).bind fun bt638 => ((laws_eqSystem.f k x625000 x625001 x625002 x625003 bt638.1 bt638.2.1 bt638.2.2.1 bt638.2.2.2).bind fun t648 => (if t648 = true then ((laws_toSystem.f k x590000 x590001 x590002 x590003).bind fun bt649 => ((laws_eqSystem.f k x636000 x636001 x636002 x636003 bt649.1 bt649.2.1 bt649.2.2.1 bt649.2.2.2).bind fun t659 => (if t659 = true then (some true) else (some false)))) else (some false))))
def laws_FnExactPartsOfGrade.f (k : Nat) (a0_0 : Int) (l0_1 : List Int) (l0_2 : List Int) (l0_3 : List Bool) (a1_0 : Int) (l1_1 : List Int) (l1_2 : List Int) (l1_3 : List Bool) (a2 : Int) : Option (Bool) := (laws_szSystem.f a0_0 l0_1 l0_2 l0_3 1048576).bind fun t590 => (if t590 < 0 then (some true) else ((laws_szSystem.f a1_0 l1_1 l1_2 l1_3 t590).bind fun t591 => (if t591 < 0 then (some true) else ((laws_toSystem.f k a0_0 l0_1 l0_2 l0_3).bind fun bt592 => ((laws_toSystem.f k a1_0 l1_1 l1_2 l1_3).bind fun bt602 => ((spec_PartsOfGrade.f k bt592.1 bt592.2.1 bt592.2.2.1 bt592.2.2.2 bt602.1 bt602.2.1 bt602.2.2.1 bt602.2.2.2 a2).bind fun bt612 => ((laws_toSystem.f k a0_0 l0_1 l0_2 l0_3).bind fun bt614 => ((laws_toSystem.f k a1_0 l1_1 l1_2 l1_3).bind fun bt625 => ((impl_PartsOfGrade.f k bt614.1 bt614.2.1 bt614.2.2.1 bt614.2.2.2 bt625.1 bt625.2.1 bt625.2.2.1 bt625.2.2.2 a2).bind fun bt636 => (if bt636.1 = bt612.1 then (laws_FnExactPartsOfGrade.j0 k (bt636.2 != bt612.2) a0_0 l0_1 l0_2 l0_3 a1_0 l1_1 l1_2 l1_3 bt614.1 bt614.2.1 bt614.2.2.1 bt614.2.2.2 bt625.1 bt625.2.1 bt625.2.2.1 bt625.2.2.2) else (laws_FnExactPartsOfGrade.j0 k true a0_0 l0_1 l0_2 l0_3 a1_0 l1_1 l1_2 l1_3 bt614.1 bt614.2.1 bt614.2.2.1 bt614.2.2.2 bt625.1 bt625.2.1 bt625.2.2.1 bt625.2.2.2)))))))))))
def laws_FnExactPartsOfGrade.T8 : Bool × List (List Nat × List Nat) := (true, [([], []), ([0], [0]), ([], []), ([2, 1], [2]), ([], []), ([1, 3, 4, 3], [1, 3, 4]), ([5], [5]), ([6], [6]), ([6], [6]), ([7, 5, 0, 1, 2, 3, 4, 5, 6, 7], [7]), ([8, 9, 0, 1, 2, 3, 4, 5, 6, 7, 8, 9], [8])])
def laws_FnExactPartsOfGrade.B8 : List Nat := [0, 1, 0, 7, 0, 31, 63, 127, 127, 255, 1023]
theorem laws_FnExactPartsOfGrade.tab8 : rtab .any (opsOf Try.f5 8) = laws_FnExactPartsOfGrade.T8 := by kernel_rfl
theorem laws_FnExactPartsOfGrade.bits8 : waitsOk laws_FnExactPartsOfGrade.T8.2 laws_FnExactPartsOfGrade.B8 = true := by kernel_rfl
set_option maxHeartbeats 8000000 in
set_option maxRecDepth 100000 in
theorem laws_FnExactPartsOfGrade.calls (k : Nat) (a0_0 : Int) (A0_1 : Option Addr) (c0_1 : Nat) (l0_1 : List Int) (A0_2 : Option Addr) (c0_2 : Nat) (l0_2 : List Int) (A0_3 : Option Addr) (c0_3 : Nat) (l0_3 : List Bool) (a1_0 : Int) (A1_1 : Option Addr) (c1_1 : Nat) (l1_1 : List Int) (A1_2 : Option Addr) (c1_2 : Nat) (l1_2 : List Int) (A1_3 : Option Addr) (c1_3 : Nat) (l1_3 : List Bool) (a2 : Int) (r : Bool) (w : World) (hr0_1 : Kd.C (Kd.int .i64) w A0_1 l0_1.length l0_1) (hc0_1 : l0_1.length ≤ c0_1) (hr0_2 : Kd.C (Kd.int .i64) w A0_2 l0_2.length l0_2) (hc0_2 : l0_2.length ≤ c0_2) (hr0_3 : Kd.C Kd.bool w A0_3 l0_3.length l0_3) (hc0_3 : l0_3.length ≤ c0_3) (hr1_1 : Kd.C (Kd.int .i64) w A1_1 l1_1.length l1_1) (hc1_1 : l1_1.length ≤ c1_1) (hr1_2 : Kd.C (Kd.int .i64) w A1_2 l1_2.length l1_2) (hc1_2 : l1_2.length ≤ c1_2) (hr1_3 : Kd.C Kd.bool w A1_3 l1_3.length l1_3) (hc1_3 : l1_3.length ≤ c1_3) (h : laws_FnExactPartsOfGrade.f k a0_0 l0_1 l0_2 l0_3 a1_0 l1_1 l1_2 l1_3 a2 = some r) (hr_ : r = true) :
  Calls Try.prog 5 #[.agg #[.int .i64 a0_0, .slice A0_1 l0_1.length c0_1, .slice A0_2 l0_2.length c0_2, .slice A0_3 l0_3.length c0_3], .agg #[.int .i64 a1_0, .slice A1_1 l1_1.length c1_1, .slice A1_2 l1_2.length c1_2, .slice A1_3 l1_3.length c1_3], .int .i64 a2] w fun e w' => e = .returned (.bool r) ∧ Below w.heap.size w w' := by
 have hu37 := Try.underlying37
 have hu27 := Try.underlying27
 have HR0_1 := sd_ hr0_1
 have HC0_1 := sd_ hc0_1
 clear hr0_1 hc0_1
 have HR0_2 := sd_ hr0_2
 have HC0_2 := sd_ hc0_2
 clear hr0_2 hc0_2
 have HR0_3 := sd_ hr0_3
 have HC0_3 := sd_ hc0_3
 clear hr0_3 hc0_3
 have HR1_1 := sd_ hr1_1
 have HC1_1 := sd_ hc1_1
 clear hr1_1 hc1_1
 have HR1_2 := sd_ hr1_2
 have HC1_2 := sd_ hc1_2
 clear hr1_2 hc1_2
 have HR1_3 := sd_ hr1_3
 have HC1_3 := sd_ hc1_3
 clear hr1_3 hc1_3
 have HB := sd_ (Below.refl w.heap.size w)
 have H : ((laws_szSystem.f a0_0 l0_1 l0_2 l0_3 1048576).bind fun t590 => (if t590 < 0 then (some true) else ((laws_szSystem.f a1_0 l1_1 l1_2 l1_3 t590).bind fun t591 => (if t591 < 0 then (some true) else ((laws_toSystem.f k a0_0 l0_1 l0_2 l0_3).bind fun bt592 => ((laws_toSystem.f k a1_0 l1_1 l1_2 l1_3).bind fun bt602 => ((spec_PartsOfGrade.f k bt592.1 bt592.2.1 bt592.2.2.1 bt592.2.2.2 bt602.1 bt602.2.1 bt602.2.2.1 bt602.2.2.2 a2).bind fun bt612 => ((laws_toSystem.f k a0_0 l0_1 l0_2 l0_3).bind fun bt614 => ((laws_toSystem.f k a1_0 l1_1 l1_2 l1_3).bind fun bt625 => ((impl_PartsOfGrade.f k bt614.1 bt614.2.1 bt614.2.2.1 bt614.2.2.2 bt625.1 bt625.2.1 bt625.2.2.1 bt625.2.2.2 a2).bind fun bt636 => (if bt636.1 = bt612.1 then (laws_FnExactPartsOfGrade.j0 k (bt636.2 != bt612.2) a0_0 l0_1 l0_2 l0_3 a1_0 l1_1 l1_2 l1_3 bt614.1 bt614.2.1 bt614.2.2.1 bt614.2.2.2 bt625.1 bt625.2.1 bt625.2.2.1 bt625.2.2.2) else (laws_FnExactPartsOfGrade.j0 k true a0_0 l0_1 l0_2 l0_3 a1_0 l1_1 l1_2 l1_3 bt614.1 bt614.2.1 bt614.2.2.1 bt614.2.2.2 bt625.1 bt625.2.1 bt625.2.2.1 bt625.2.2.2)))))))))))) = some r := h
 clear h
 replace H := Option.bind_eq_some_iff.mp H
 obtain ⟨t590, A40, H⟩ := H
 replace H : (if t590 < 0 then (some true) else ((laws_szSystem.f a1_0 l1_1 l1_2 l1_3 t590).bind fun t591 => (if t591 < 0 then (some true) else ((laws_toSystem.f k a0_0 l0_1 l0_2 l0_3).bind fun bt592 => ((laws_toSystem.f k a1_0 l1_1 l1_2 l1_3).bind fun bt602 => ((spec_PartsOfGrade.f k bt592.1 bt592.2.1 bt592.2.2.1 bt592.2.2.2 bt602.1 bt602.2.1 bt602.2.2.1 bt602.2.2.2 a2).bind fun bt612 => ((laws_toSystem.f k a0_0 l0_1 l0_2 l0_3).bind fun bt614 => ((laws_toSystem.f k a1_0 l1_1 l1_2 l1_3).bind fun bt625 => ((impl_PartsOfGrade.f k bt614.1 bt614.2.1 bt614.2.2.1 bt614.2.2.2 bt625.1 bt625.2.1 bt625.2.2.1 bt625.2.2.2 a2).bind fun bt636 => (if bt636.1 = bt612.1 then (laws_FnExactPartsOfGrade.j0 k (bt636.2 != bt612.2) a0_0 l0_1 l0_2 l0_3 a1_0 l1_1 l1_2 l1_3 bt614.1 bt614.2.1 bt614.2.2.1 bt614.2.2.2 bt625.1 bt625.2.1 bt625.2.2.1 bt625.2.2.2) else (laws_FnExactPartsOfGrade.j0 k true a0_0 l0_1 l0_2 l0_3 a1_0 l1_1 l1_2 l1_3 bt614.1 bt614.2.1 bt614.2.2.1 bt614.2.2.2 bt625.1 bt625.2.1 bt625.2.2.1 bt625.2.2.2))))))))))) = some r := H
 have A4 := sd_ A40
 clear A40
 by_cases c5 : t590 < 0
 ·rw [if_pos c5] at H
  have c5b0 : decide (t590 < 0) = true := decide_eq_true c5
  clear c5
  obtain rfl := Option.some.inj H
  go_enter Try.func5, Try.ntmps5
  go_wp2_with (first | ((with_reducible refine gate_dst (N := 3) rfl ?_); refine box_event ?hg (N := 3) ?hd (cs := #[.int .i64 a0_0, .slice A0_1 l0_1.length c0_1, .slice A0_2 l0_2.length c0_2, .slice A0_3 l0_3.length c0_3]) (t := 37) ?hr ?_; (case hd => rfl); (case hg => rfl); (case hr => first | (go_simp; done) | (go_simp; rfl)); intro gb588 hg w6 hbox hb; have BK588 := sd_ (hbox); have GW588 := sd_ ((by rw [hg]; exact (below_size (bw0_ HB.out)) : w.heap.size ≤ gb588)); have GE588 := sd_ ((by rw [hg]; exact (below_size (bw0_ HB.out)) : w.heap.size ≤ gb588)); replace HB := sd_ (below_step (bw0_ HB.out) hb); clear hb hbox hg) | ((with_reducible refine gate_dst (N := 4) rfl ?_); refine box_event ?hg (N := 4) ?hd (cs := #[.int .i64 a1_0, .slice A1_1 l1_1.length c1_1, .slice A1_2 l1_2.length c1_2, .slice A1_3 l1_3.length c1_3]) (t := 37) ?hr ?_; (case hd => rfl); (case hg => rfl); (case hr => first | (go_simp; done) | (go_simp; rfl)); intro gb589 hg w7 hbox hb; have BK589 := sd_ (hbox); have GW589 := sd_ ((by rw [hg]; exact (below_size (bw1_ HB.out GE588.out)) : w.heap.size ≤ gb589)); have GE589 := sd_ ((by rw [hg]; exact (below_size (bw1_ HB.out GE588.out)) : w.heap.size ≤ gb589)); replace HB := sd_ (below_step (bw1_ HB.out GE588.out) hb); have NB588_589 := sd_ ((by rw [hg]; exact Nat.ne_of_lt (bl_ BK588.out) : gb588 ≠ gb589)); have NB589_588 := sd_ ((by rw [hg]; exact Nat.ne_of_gt (bl_ BK588.out) : gb589 ≠ gb588)); replace BK588 := sd_ (bb_ BK588.out hb); clear hb hbox hg; have hnb8 := NB588_589.out; have hnc8 := NB589_588.out; have hcz9_0 : w7.cell? ⟨gb588, 0, none⟩ = some (.int .i64 a0_0) := (blk_cell BK588.out 0).trans rfl; have hcz9_1 : w7.cell? ⟨gb588, 1, none⟩ = some (.slice A0_1 l0_1.length c0_1) := (blk_cell BK588.out 1).trans rfl; have hcz9_2 : w7.cell? ⟨gb588, 2, none⟩ = some (.slice A0_2 l0_2.length c0_2) := (blk_cell BK588.out 2).trans rfl; have hcz9_3 : w7.cell? ⟨gb588, 3, none⟩ = some (.slice A0_3 l0_3.length c0_3) := (blk_cell BK588.out 3).trans rfl; have hfz9_0 := blk_frozen BK588.out 0; have hfz9_1 := blk_frozen BK588.out 1; have hfz9_2 := blk_frozen BK588.out 2; have hfz9_3 := blk_frozen BK588.out 3) | ((with_reducible refine gate_callee (f := 22) rfl ?_); refine goesL_ (some 16) rfl rfl Try.func22 (by kernel_rfl) rfl #[.agg #[.int .i64 a0_0, .slice A0_1 l0_1.length c0_1, .slice A0_2 l0_2.length c0_2, .slice A0_3 l0_3.length c0_3], .int .i64 1048576] rfl (by (try simp only [List.map_toArray, List.map_cons, List.map_nil]); first | done | rfl | (simp only [List.length_drop, List.length_take]; rfl)) ?_; (with_reducible refine (laws_szSystem.calls a0_0 _ _ l0_1 _ _ l0_2 _ _ l0_3 1048576 t590 _ ?side1 ?side2 ?side3 ?side4 ?side5 ?side6 A4.out).mono ?_); (case side1 => exact kc_ HR0_1.out HB.out); (case side2 => exact HC0_1.out); (case side3 => exact kc_ HR0_2.out HB.out); (case side4 => exact HC0_2.out); (case side5 => exact kc_ HR0_3.out HB.out); (case side6 => exact HC0_3.out); rintro e w10 ⟨rfl, hb⟩; refine ⟨_, rfl, ?_⟩; replace BK588 := sd_ (bb_ BK588.out hb); replace BK589 := sd_ (bb_ BK589.out hb); replace HB := sd_ (below_step (bw2_ HB.out GE588.out GE589.out) hb); (try clear hb); (try clear hb2); (try clear hk); (try clear hi)))
  go_ret
  exact ⟨by first | rfl | (simp [errW_none, errW_some] <;> rfl) | (simp [*, errW_none, errW_some] <;> rfl), bw2_ HB.out GE588.out GE589.out⟩
 ·rw [if_neg c5] at H
  have c5b0 : decide (t590 < 0) = false := decide_eq_false c5
  clear c5
  replace H := Option.bind_eq_some_iff.mp H
  obtain ⟨t591, A110, H⟩ := H
  replace H : (if t591 < 0 then (some true) else ((laws_toSystem.f k a0_0 l0_1 l0_2 l0_3).bind fun bt592 => ((laws_toSystem.f k a1_0 l1_1 l1_2 l1_3).bind fun bt602 => ((spec_PartsOfGrade.f k bt592.1 bt592.2.1 bt592.2.2.1 bt592.2.2.2 bt602.1 bt602.2.1 bt602.2.2.1 bt602.2.2.2 a2).bind fun bt612 => ((laws_toSystem.f k a0_0 l0_1 l0_2 l0_3).bind fun bt614 => ((laws_toSystem.f k a1_0 l1_1 l1_2 l1_3).bind fun bt625 => ((impl_PartsOfGrade.f k bt614.1 bt614.2.1 bt614.2.2.1 bt614.2.2.2 bt625.1 bt625.2.1 bt625.2.2.1 bt625.2.2.2 a2).bind fun bt636 => (if bt636.1 = bt612.1 then (laws_FnExactPartsOfGrade.j0 k (bt636.2 != bt612.2) a0_0 l0_1 l0_2 l0_3 a1_0 l1_1 l1_2 l1_3 bt614.1 bt614.2.1 bt614.2.2.1 bt614.2.2.2 bt625.1 bt625.2.1 bt625.2.2.1 bt625.2.2.2) else (laws_FnExactPartsOfGrade.j0 k true a0_0 l0_1 l0_2 l0_3 a1_0 l1_1 l1_2 l1_3 bt614.1 bt614.2.1 bt614.2.2.1 bt614.2.2.2 bt625.1 bt625.2.1 bt625.2.2.1 bt625.2.2.2))))))))) = some r := H
  have A11 := sd_ A110
  clear A110
  by_cases c12 : t591 < 0
  ·rw [if_pos c12] at H
   have c12b0 : decide (t591 < 0) = true := decide_eq_true c12
   clear c12
   obtain rfl := Option.some.inj H
   go_enter Try.func5, Try.ntmps5
   go_wp2_with (first | ((with_reducible refine gate_dst (N := 3) rfl ?_); refine box_event ?hg (N := 3) ?hd (cs := #[.int .i64 a0_0, .slice A0_1 l0_1.length c0_1, .slice A0_2 l0_2.length c0_2, .slice A0_3 l0_3.length c0_3]) (t := 37) ?hr ?_; (case hd => rfl); (case hg => rfl); (case hr => first | (go_simp; done) | (go_simp; rfl)); intro gb588 hg w13 hbox hb; have BK588 := sd_ (hbox); have GW588 := sd_ ((by rw [hg]; exact (below_size (bw0_ HB.out)) : w.heap.size ≤ gb588)); have GE588 := sd_ ((by rw [hg]; exact (below_size (bw0_ HB.out)) : w.heap.size ≤ gb588)); replace HB := sd_ (below_step (bw0_ HB.out) hb); clear hb hbox hg) | ((with_reducible refine gate_dst (N := 4) rfl ?_); refine box_event ?hg (N := 4) ?hd (cs := #[.int .i64 a1_0, .slice A1_1 l1_1.length c1_1, .slice A1_2 l1_2.length c1_2, .slice A1_3 l1_3.length c1_3]) (t := 37) ?hr ?_; (case hd => rfl); (case hg => rfl); (case hr => first | (go_simp; done) | (go_simp; rfl)); intro gb589 hg w14 hbox hb; have BK589 := sd_ (hbox); have GW589 := sd_ ((by rw [hg]; exact (below_size (bw1_ HB.out GE588.out)) : w.heap.size ≤ gb589)); have GE589 := sd_ ((by rw [hg]; exact (below_size (bw1_ HB.out GE588.out)) : w.heap.size ≤ gb589)); replace HB := sd_ (below_step (bw1_ HB.out GE588.out) hb); have NB588_589 := sd_ ((by rw [hg]; exact Nat.ne_of_lt (bl_ BK588.out) : gb588 ≠ gb589)); have NB589_588 := sd_ ((by rw [hg]; exact Nat.ne_of_gt (bl_ BK588.out) : gb589 ≠ gb588)); replace BK588 := sd_ (bb_ BK588.out hb); clear hb hbox hg; have hnb15 := NB588_589.out; have hnc15 := NB589_588.out; have hcz16_0 : w14.cell? ⟨gb588, 0, none⟩ = some (.int .i64 a0_0) := (blk_cell BK588.out 0).trans rfl; have hcz16_1 : w14.cell? ⟨gb588, 1, none⟩ = some (.slice A0_1 l0_1.length c0_1) := (blk_cell BK588.out 1).trans rfl; have hcz16_2 : w14.cell? ⟨gb588, 2, none⟩ = some (.slice A0_2 l0_2.length c0_2) := (blk_cell BK588.out 2).trans rfl; have hcz16_3 : w14.cell? ⟨gb588, 3, none⟩ = some (.slice A0_3 l0_3.length c0_3) := (blk_cell BK588.out 3).trans rfl; have hfz16_0 := blk_frozen BK588.out 0; have hfz16_1 := blk_frozen BK588.out 1; have hfz16_2 := blk_frozen BK588.out 2; have hfz16_3 := blk_frozen BK588.out 3) | ((with_reducible refine gate_callee (f := 22) rfl ?_); refine goesL_ (some 16) rfl rfl Try.func22 (by kernel_rfl) rfl #[.agg #[.int .i64 a0_0, .slice A0_1 l0_1.length c0_1, .slice A0_2 l0_2.length c0_2, .slice A0_3 l0_3.length c0_3], .int .i64 1048576] rfl (by (try simp only [List.map_toArray, List.map_cons, List.map_nil]); first | done | rfl | (simp only [List.length_drop, List.length_take]; rfl)) ?_; (with_reducible refine (laws_szSystem.calls a0_0 _ _ l0_1 _ _ l0_2 _ _ l0_3 1048576 t590 _ ?side1 ?side2 ?side3 ?side4 ?side5 ?side6 A4.out).mono ?_); (case side1 => exact kc_ HR0_1.out HB.out); (case side2 => exact HC0_1.out); (case side3 => exact kc_ HR0_2.out HB.out); (case side4 => exact HC0_2.out); (case side5 => exact kc_ HR0_3.out HB.out); (case side6 => exact HC0_3.out); rintro e w17 ⟨rfl, hb⟩; refine ⟨_, rfl, ?_⟩; replace BK588 := sd_ (bb_ BK588.out hb); replace BK589 := sd_ (bb_ BK589.out hb); replace HB := sd_ (below_step (bw2_ HB.out GE588.out GE589.out) hb); (try clear hb); (try clear hb2); (try clear hk); (try clear hi); have hcz18_0 : w17.cell? ⟨gb589, 0, none⟩ = some (.int .i64 a1_0) := (blk_cell BK589.out 0).trans rfl; have hcz18_1 : w17.cell? ⟨gb589, 1, none⟩ = some (.slice A1_1 l1_1.length c1_1) := (blk_cell BK589.out 1).trans rfl; have hcz18_2 : w17.cell? ⟨gb589, 2, none⟩ = some (.slice A1_2 l1_2.length c1_2) := (blk_cell BK589.out 2).trans rfl; have hcz18_3 : w17.cell? ⟨gb589, 3, none⟩ = some (.slice A1_3 l1_3.length c1_3) := (blk_cell BK589.out 3).trans rfl; have hfz18_0 := blk_frozen BK589.out 0; have hfz18_1 := blk_frozen BK589.out 1; have hfz18_2 := blk_frozen BK589.out 2; have hfz18_3 := blk_frozen BK589.out 3) | ((with_reducible refine gate_callee (f := 22) rfl ?_); refine goesL_ (some 21) rfl rfl Try.func22 (by kernel_rfl) rfl #[.agg #[.int .i64 a1_0, .slice A1_1 l1_1.length c1_1, .slice A1_2 l1_2.length c1_2, .slice A1_3 l1_3.length c1_3], .int .i64 t590] rfl (by (try simp only [List.map_toArray, List.map_cons, List.map_nil]); first | done | rfl | (simp only [List.length_drop, List.length_take]; rfl)) ?_; (with_reducible refine (laws_szSystem.calls a1_0 _ _ l1_1 _ _ l1_2 _ _ l1_3 t590 t591 _ ?side1 ?side2 ?side3 ?side4 ?side5 ?side6 A11.out).mono ?_); (case side1 => exact kc_ HR1_1.out HB.out); (case side2 => exact HC1_1.out); (case side3 => exact kc_ HR1_2.out HB.out); (case side4 => exact HC1_2.out); (case side5 => exact kc_ HR1_3.out HB.out); (case side6 => exact HC1_3.out); rintro e w19 ⟨rfl, hb⟩; refine ⟨_, rfl, ?_⟩; replace BK588 := sd_ (bb_ BK588.out hb); replace BK589 := sd_ (bb_ BK589.out hb); replace HB := sd_ (below_step (bw2_ HB.out GE588.out GE589.out) hb); (try clear hb); (try clear hb2); (try clear hk); (try clear hi)))
   go_ret
   exact ⟨by first | rfl | (simp [errW_none, errW_some] <;> rfl) | (simp [*, errW_none, errW_some] <;> rfl), bw2_ HB.out GE588.out GE589.out⟩
  ·rw [if_neg c12] at H
   have c12b0 : decide (t591 < 0) = false := decide_eq_false c12
   clear c12
   replace H := Option.bind_eq_some_iff.mp H
   obtain ⟨⟨t592, t593, t596, t599⟩, A200, H⟩ := H
   replace H : ((laws_toSystem.f k a1_0 l1_1 l1_2 l1_3).bind fun bt602 => ((spec_PartsOfGrade.f k t592 t593 t596 t599 bt602.1 bt602.2.1 bt602.2.2.1 bt602.2.2.2 a2).bind fun bt612 => ((laws_toSystem.f k a0_0 l0_1 l0_2 l0_3).bind fun bt614 => ((laws_toSystem.f k a1_0 l1_1 l1_2 l1_3).bind fun bt625 => ((impl_PartsOfGrade.f k bt614.1 bt614.2.1 bt614.2.2.1 bt614.2.2.2 bt625.1 bt625.2.1 bt625.2.2.1 bt625.2.2.2 a2).bind fun bt636 => (if bt636.1 = bt612.1 then (laws_FnExactPartsOfGrade.j0 k (bt636.2 != bt612.2) a0_0 l0_1 l0_2 l0_3 a1_0 l1_1 l1_2 l1_3 bt614.1 bt614.2.1 bt614.2.2.1 bt614.2.2.2 bt625.1 bt625.2.1 bt625.2.2.1 bt625.2.2.2) else (laws_FnExactPartsOfGrade.j0 k true a0_0 l0_1 l0_2 l0_3 a1_0 l1_1 l1_2 l1_3 bt614.1 bt614.2.1 bt614.2.2.1 bt614.2.2.2 bt625.1 bt625.2.1 bt625.2.2.1 bt625.2.2.2))))))) = some r := H
   have A20 := sd_ A200
   clear A200
   replace H := Option.bind_eq_some_iff.mp H
   obtain ⟨⟨t602, t603, t606, t609⟩, A210, H⟩ := H
   replace H : ((spec_PartsOfGrade.f k t592 t593 t596 t599 t602 t603 t606 t609 a2).bind fun bt612 => ((laws_toSystem.f k a0_0 l0_1 l0_2 l0_3).bind fun bt614 => ((laws_toSystem.f k a1_0 l1_1 l1_2 l1_3).bind fun bt625 => ((impl_PartsOfGrade.f k bt614.1 bt614.2.1 bt614.2.2.1 bt614.2.2.2 bt625.1 bt625.2.1 bt625.2.2.1 bt625.2.2.2 a2).bind fun bt636 => (if bt636.1 = bt612.1 then (laws_FnExactPartsOfGrade.j0 k (bt636.2 != bt612.2) a0_0 l0_1 l0_2 l0_3 a1_0 l1_1 l1_2 l1_3 bt614.1 bt614.2.1 bt614.2.2.1 bt614.2.2.2 bt625.1 bt625.2.1 bt625.2.2.1 bt625.2.2.2) else (laws_FnExactPartsOfGrade.j0 k true a0_0 l0_1 l0_2 l0_3 a1_0 l1_1 l1_2 l1_3 bt614.1 bt614.2.1 bt614.2.2.1 bt614.2.2.2 bt625.1 bt625.2.1 bt625.2.2.1 bt625.2.2.2)))))) = some r := H
   have A21 := sd_ A210
   clear A210
   replace H := Option.bind_eq_some_iff.mp H
   obtain ⟨⟨t612, t613⟩, A220, H⟩ := H
   replace H : ((laws_toSystem.f k a0_0 l0_1 l0_2 l0_3).bind fun bt614 => ((laws_toSystem.f k a1_0 l1_1 l1_2 l1_3).bind fun bt625 => ((impl_PartsOfGrade.f k bt614.1 bt614.2.1 bt614.2.2.1 bt614.2.2.2 bt625.1 bt625.2.1 bt625.2.2.1 bt625.2.2.2 a2).bind fun bt636 => (if bt636.1 = t612 then (laws_FnExactPartsOfGrade.j0 k (bt636.2 != t613) a0_0 l0_1 l0_2 l0_3 a1_0 l1_1 l1_2 l1_3 bt614.1 bt614.2.1 bt614.2.2.1 bt614.2.2.2 bt625.1 bt625.2.1 bt625.2.2.1 bt625.2.2.2) else (laws_FnExactPartsOfGrade.j0 k true a0_0 l0_1 l0_2 l0_3 a1_0 l1_1 l1_2 l1_3 bt614.1 bt614.2.1 bt614.2.2.1 bt614.2.2.2 bt625.1 bt625.2.1 bt625.2.2.1 bt625.2.2.2))))) = some r := H
   have A22 := sd_ A220
   clear A220
   replace H := Option.bind_eq_some_iff.mp H
   obtain ⟨⟨t614, t615, t618, t621⟩, A230, H⟩ := H
   replace H : ((laws_toSystem.f k a1_0 l1_1 l1_2 l1_3).bind fun bt625 => ((impl_PartsOfGrade.f k t614 t615 t618 t621 bt625.1 bt625.2.1 bt625.2.2.1 bt625.2.2.2 a2).bind fun bt636 => (if bt636.1 = t612 then (laws_FnExactPartsOfGrade.j0 k (bt636.2 != t613) a0_0 l0_1 l0_2 l0_3 a1_0 l1_1 l1_2 l1_3 t614 t615 t618 t621 bt625.1 bt625.2.1 bt625.2.2.1 bt625.2.2.2) else (laws_FnExactPartsOfGrade.j0 k true a0_0 l0_1 l0_2 l0_3 a1_0 l1_1 l1_2 l1_3 t614 t615 t618 t621 bt625.1 bt625.2.1 bt625.2.2.1 bt625.2.2.2)))) = some r := H
   have A23 := sd_ A230
   clear A230
   replace H := Option.bind_eq_some_iff.mp H
   obtain ⟨⟨t625, t626, t629, t632⟩, A240, H⟩ := H
   replace H : ((impl_PartsOfGrade.f k t614 t615 t618 t621 t625 t626 t629 t632 a2).bind fun bt636 => (if bt636.1 = t612 then (laws_FnExactPartsOfGrade.j0 k (bt636.2 != t613) a0_0 l0_1 l0_2 l0_3 a1_0 l1_1 l1_2 l1_3 t614 t615 t618 t621 t625 t626 t629 t632) else (laws_FnExactPartsOfGrade.j0 k true a0_0 l0_1 l0_2 l0_3 a1_0 l1_1 l1_2 l1_3 t614 t615 t618 t621 t625 t626 t629 t632))) = some r := H
   have A24 := sd_ A240
   clear A240
   replace H := Option.bind_eq_some_iff.mp H
   obtain ⟨⟨t636, t637⟩, A250, H⟩ := H
   replace H : (if t636 = t612 then (laws_FnExactPartsOfGrade.j0 k (t637 != t613) a0_0 l0_1 l0_2 l0_3 a1_0 l1_1 l1_2 l1_3 t614 t615 t618 t621 t625 t626 t629 t632) else (laws_FnExactPartsOfGrade.j0 k true a0_0 l0_1 l0_2 l0_3 a1_0 l1_1 l1_2 l1_3 t614 t615 t618 t621 t625 t626 t629 t632)) = some r := H
   have A25 := sd_ A250
   clear A250
   have HC26 := sd_ H
   clear H
   go_enter Try.func5, Try.ntmps5
   try go_wp2_with (first | ((with_reducible refine gate_dst (N := 3) rfl ?_); refine box_event ?hg (N := 3) ?hd (cs := #[.int .i64 a0_0, .slice A0_1 l0_1.length c0_1, .slice A0_2 l0_2.length c0_2, .slice A0_3 l0_3.length c0_3]) (t := 37) ?hr ?_; (case hd => rfl); (case hg => rfl); (case hr => first | (go_simp; done) | (go_simp; rfl)); intro gb588 hg w27 hbox hb; have BK588 := sd_ (hbox); have GW588 := sd_ ((by rw [hg]; exact (below_size (bw0_ HB.out)) : w.heap.size ≤ gb588)); have GE588 := sd_ ((by rw [hg]; exact (below_size (bw0_ HB.out)) : w.heap.size ≤ gb588)); replace HB := sd_ (below_step (bw0_ HB.out) hb); clear hb hbox hg) | ((with_reducible refine gate_dst (N := 4) rfl ?_); refine box_event ?hg (N := 4) ?hd (cs := #[.int .i64 a1_0, .slice A1_1 l1_1.length c1_1, .slice A1_2 l1_2.length c1_2, .slice A1_3 l1_3.length c1_3]) (t := 37) ?hr ?_; (case hd => rfl); (case hg => rfl); (case hr => first | (go_simp; done) | (go_simp; rfl)); intro gb589 hg w28 hbox hb; have BK589 := sd_ (hbox); have GW589 := sd_ ((by rw [hg]; exact (below_size (bw1_ HB.out GE588.out)) : w.heap.size ≤ gb589)); have GE589 := sd_ ((by rw [hg]; exact (below_size (bw1_ HB.out GE588.out)) : w.heap.size ≤ gb589)); replace HB := sd_ (below_step (bw1_ HB.out GE588.out) hb); have NB588_589 := sd_ ((by rw [hg]; exact Nat.ne_of_lt (bl_ BK588.out) : gb588 ≠ gb589)); have NB589_588 := sd_ ((by rw [hg]; exact Nat.ne_of_gt (bl_ BK588.out) : gb589 ≠ gb588)); replace BK588 := sd_ (bb_ BK588.out hb); clear hb hbox hg; have hnb29 := NB588_589.out; have hnc29 := NB589_588.out; have hcz30_0 : w28.cell? ⟨gb588, 0, none⟩ = some (.int .i64 a0_0) := (blk_cell BK588.out 0).trans rfl; have hcz30_1 : w28.cell? ⟨gb588, 1, none⟩ = some (.slice A0_1 l0_1.length c0_1) := (blk_cell BK588.out 1).trans rfl; have hcz30_2 : w28.cell? ⟨gb588, 2, none⟩ = some (.slice A0_2 l0_2.length c0_2) := (blk_cell BK588.out 2).trans rfl; have hcz30_3 : w28.cell? ⟨gb588, 3, none⟩ = some (.slice A0_3 l0_3.length c0_3) := (blk_cell BK588.out 3).trans rfl; have hfz30_0 := blk_frozen BK588.out 0; have hfz30_1 := blk_frozen BK588.out 1; have hfz30_2 := blk_frozen BK588.out 2; have hfz30_3 := blk_frozen BK588.out 3) | ((with_reducible refine gate_callee (f := 22) rfl ?_); refine goesL_ (some 16) rfl rfl Try.func22 (by kernel_rfl) rfl #[.agg #[.int .i64 a0_0, .slice A0_1 l0_1.length c0_1, .slice A0_2 l0_2.length c0_2, .slice A0_3 l0_3.length c0_3], .int .i64 1048576] rfl (by (try simp only [List.map_toArray, List.map_cons, List.map_nil]); first | done | rfl | (simp only [List.length_drop, List.length_take]; rfl)) ?_; (with_reducible refine (laws_szSystem.calls a0_0 _ _ l0_1 _ _ l0_2 _ _ l0_3 1048576 t590 _ ?side1 ?side2 ?side3 ?side4 ?side5 ?side6 A4.out).mono ?_); (case side1 => exact kc_ HR0_1.out HB.out); (case side2 => exact HC0_1.out); (case side3 => exact kc_ HR0_2.out HB.out); (case side4 => exact HC0_2.out); (case side5 => exact kc_ HR0_3.out HB.out); (case side6 => exact HC0_3.out); rintro e w31 ⟨rfl, hb⟩; refine ⟨_, rfl, ?_⟩; replace BK588 := sd_ (bb_ BK588.out hb); replace BK589 := sd_ (bb_ BK589.out hb); replace HB := sd_ (below_step (bw2_ HB.out GE588.out GE589.out) hb); (try clear hb); (try clear hb2); (try clear hk); (try clear hi); have hcz32_0 : w31.cell? ⟨gb589, 0, none⟩ = some (.int .i64 a1_0) := (blk_cell BK589.out 0).trans rfl; have hcz32_1 : w31.cell? ⟨gb589, 1, none⟩ = some (.slice A1_1 l1_1.length c1_1) := (blk_cell BK589.out 1).trans rfl; have hcz32_2 : w31.cell? ⟨gb589, 2, none⟩ = some (.slice A1_2 l1_2.length c1_2) := (blk_cell BK589.out 2).trans rfl; have hcz32_3 : w31.cell? ⟨gb589, 3, none⟩ = some (.slice A1_3 l1_3.length c1_3) := (blk_cell BK589.out 3).trans rfl; have hfz32_0 := blk_frozen BK589.out 0; have hfz32_1 := blk_frozen BK589.out 1; have hfz32_2 := blk_frozen BK589.out 2; have hfz32_3 := blk_frozen BK589.out 3) | ((with_reducible refine gate_callee (f := 22) rfl ?_); refine goesL_ (some 21) rfl rfl Try.func22 (by kernel_rfl) rfl #[.agg #[.int .i64 a1_0, .slice A1_1 l1_1.length c1_1, .slice A1_2 l1_2.length c1_2, .slice A1_3 l1_3.length c1_3], .int .i64 t590] rfl (by (try simp only [List.map_toArray, List.map_cons, List.map_nil]); first | done | rfl | (simp only [List.length_drop, List.length_take]; rfl)) ?_; (with_reducible refine (laws_szSystem.calls a1_0 _ _ l1_1 _ _ l1_2 _ _ l1_3 t590 t591 _ ?side1 ?side2 ?side3 ?side4 ?side5 ?side6 A11.out).mono ?_); (case side1 => exact kc_ HR1_1.out HB.out); (case side2 => exact HC1_1.out); (case side3 => exact kc_ HR1_2.out HB.out); (case side4 => exact HC1_2.out); (case side5 => exact kc_ HR1_3.out HB.out); (case side6 => exact HC1_3.out); rintro e w33 ⟨rfl, hb⟩; refine ⟨_, rfl, ?_⟩; replace BK588 := sd_ (bb_ BK588.out hb); replace BK589 := sd_ (bb_ BK589.out hb); replace HB := sd_ (below_step (bw2_ HB.out GE588.out GE589.out) hb); (try clear hb); (try clear hb2); (try clear hk); (try clear hi)))
   replace BK588 := sd_ (blk_drew BK588.out)
   replace BK589 := sd_ (blk_drew BK589.out)
   replace HB := sd_ (below_drew1 HB.out)
   refine start_ (n := 11) (S := fun w' => w'.cell? ⟨gb588, 0, none⟩ = some (.int .i64 a0_0) ∧ w'.cell? ⟨gb588, 1, none⟩ = some (.slice A0_1 l0_1.length c0_1) ∧ w'.cell? ⟨gb588, 2, none⟩ = some (.slice A0_2 l0_2.length c0_2) ∧ w'.cell? ⟨gb588, 3, none⟩ = some (.slice A0_3 l0_3.length c0_3) ∧ w'.cell? ⟨gb589, 0, none⟩ = some (.int .i64 a1_0) ∧ w'.cell? ⟨gb589, 1, none⟩ = some (.slice A1_1 l1_1.length c1_1) ∧ w'.cell? ⟨gb589, 2, none⟩ = some (.slice A1_2 l1_2.length c1_2) ∧ w'.cell? ⟨gb589, 3, none⟩ = some (.slice A1_3 l1_3.length c1_3)) (ds := []) #[false, false, false, false, false, false, false, false, false, false, false] (by kernel_rfl) rfl rfl ⟨(blk_cell BK588.out 0).trans rfl, (blk_cell BK588.out 1).trans rfl, (blk_cell BK588.out 2).trans rfl, (blk_cell BK588.out 3).trans rfl, (blk_cell BK589.out 0).trans rfl, (blk_cell BK589.out 1).trans rfl, (blk_cell BK589.out 2).trans rfl, (blk_cell BK589.out 3).trans rfl⟩ (fun hHeld => ?_); refine with_tabW laws_FnExactPartsOfGrade.tab8 laws_FnExactPartsOfGrade.bits8 (fun HT_ HW_ => ?_)
   generalize w33.drew = w34 at BK588 BK589 HB hHeld ⊢
   refine pure_ (i := 4) (N := some 29) (v := ?_) (a' := ?_) #[false, false, false, false, true, false, false, false, false, false, false] rfl rfl (any_of HT_.out (by kernel_rfl)) (fun _ _ _ h => h) (Or.inl ⟨by rfl, ?_⟩) ?_ ?_
   rotate_left
   ·intro w'
    go_simp
    with_reducible rfl
   rotate_left
   ·simp only [Act.put, List.setIfInBounds_toArray, List.set_cons_zero, List.set_cons_succ, i64_w, i32_w]
    rfl
   refine take_ (i := 0) (N := some 25) (v := ?_) (a' := ?_) #[true, false, false, false, true, false, false, false, false, false, false] rfl rfl (take_ofW HT_.out HW_.out (by kernel_rfl)) (fun _ _ _ h => h) (Or.inl ⟨by rfl, ?_⟩) hHeld ?_ ?_
   rotate_left
   ·rintro w' ⟨s0, s1, s2, s3, s4, s5, s6, s7⟩
    go_simp
    with_reducible rfl
   rotate_left
   ·simp only [Act.put, List.setIfInBounds_toArray, List.set_cons_zero, List.set_cons_succ, i64_w, i32_w]
    rfl
   refine take_ (i := 2) (N := some 27) (v := ?_) (a' := ?_) #[true, false, true, false, true, false, false, false, false, false, false] rfl rfl (take_ofW HT_.out HW_.out (by kernel_rfl)) (fun _ _ _ h => h) (Or.inl ⟨by rfl, ?_⟩) hHeld ?_ ?_
   rotate_left
   ·rintro w' ⟨s0, s1, s2, s3, s4, s5, s6, s7⟩
    go_simp
    with_reducible rfl
   rotate_left
   ·simp only [Act.put, List.setIfInBounds_toArray, List.set_cons_zero, List.set_cons_succ, i64_w, i32_w]
    rfl
   refine one_ (i := 1) (N := some 26) #[true, true, true, false, true, false, false, false, false, false, false] rfl rfl (one_of HT_.out (by kernel_rfl)) (by decide) (fun K hK => ?_)
   refine goes_ Try.func24 (by kernel_rfl) rfl #[.agg #[.int .i64 a0_0, .slice A0_1 l0_1.length c0_1, .slice A0_2 l0_2.length c0_2, .slice A0_3 l0_3.length c0_3]] (by rfl) rfl rfl (by (try simp only [List.map_toArray, List.map_cons, List.map_nil]); first | done | rfl | (simp only [List.length_drop, List.length_take]; rfl)) ?_
   with_reducible refine (laws_toSystem.calls k a0_0 _ _ l0_1 _ _ l0_2 _ _ l0_3 t592 t593 t596 t599 _ ?side1 ?side2 ?side3 ?side4 ?side5 ?side6 A20.out).mono ?_
   (case side1 => exact kc_ HR0_1.out HB.out)
   (case side2 => exact HC0_1.out)
   (case side3 => exact kc_ HR0_2.out HB.out)
   (case side4 => exact HC0_2.out)
   (case side5 => exact kc_ HR0_3.out HB.out)
   (case side6 => exact HC0_3.out)
   rintro e w35 ⟨v594, v597, v600, rfl, ho0, ho1, ho2, hb⟩
   refine ⟨_, rfl, ?_⟩
   have HO595 := sd_ (Kd.R_lower ho0 (below_size (bw2_ HB.out GE588.out GE589.out)))
   have HO598 := sd_ (Kd.R_lower ho1 (below_size (bw2_ HB.out GE588.out GE589.out)))
   have HO601 := sd_ (Kd.R_lower ho2 (below_size (bw2_ HB.out GE588.out GE589.out)))
   replace BK588 := sd_ (bb_ BK588.out hb)
   replace BK589 := sd_ (bb_ BK589.out hb)
   replace HB := sd_ (below_step (bw2_ HB.out GE588.out GE589.out) hb)
   (try clear hb)
   (try clear hb2)
   (try clear hk)
   (try clear hi)
   (try clear ho0)
   (try clear ho1)
   (try clear ho2)
   refine hK.out _ _ ⟨(blk_cell BK588.out 0).trans rfl, (blk_cell BK588.out 1).trans rfl, (blk_cell BK588.out 2).trans rfl, (blk_cell BK588.out 3).trans rfl, (blk_cell BK589.out 0).trans rfl, (blk_cell BK589.out 1).trans rfl, (blk_cell BK589.out 2).trans rfl, (blk_cell BK589.out 3).trans rfl⟩ (fun hHeld => ?_)
   clear hK K
   refine norm_ (a' := ?_) ?_ ?_
   rotate_left
   ·show Act.put _ (some 26) _ = _
    simp only [Act.put, List.setIfInBounds_toArray, List.set_cons_zero, List.set_cons_succ, i64_w, i32_w]
    rfl
   refine one_ (i := 3) (N := some 28) #[true, true, true, true, true, false, false, false, false, false, false] rfl rfl (one_of HT_.out (by kernel_rfl)) (by decide) (fun K hK => ?_)
   refine goes_ Try.func24 (by kernel_rfl) rfl #[.agg #[.int .i64 a1_0, .slice A1_1 l1_1.length c1_1, .slice A1_2 l1_2.length c1_2, .slice A1_3 l1_3.length c1_3]] (by rfl) rfl rfl (by (try simp only [List.map_toArray, List.map_cons, List.map_nil]); first | done | rfl | (simp only [List.length_drop, List.length_take]; rfl)) ?_
   with_reducible refine (laws_toSystem.calls k a1_0 _ _ l1_1 _ _ l1_2 _ _ l1_3 t602 t603 t606 t609 _ ?side1 ?side2 ?side3 ?side4 ?side5 ?side6 A21.out).mono ?_
   (case side1 => exact kc_ HR1_1.out HB.out)
   (case side2 => exact HC1_1.out)
   (case side3 => exact kc_ HR1_2.out HB.out)
   (case side4 => exact HC1_2.out)
   (case side5 => exact kc_ HR1_3.out HB.out)
   (case side6 => exact HC1_3.out)
   rintro e w36 ⟨v604, v607, v610, rfl, ho0, ho1, ho2, hb⟩
   refine ⟨_, rfl, ?_⟩
   have HO605 := sd_ (Kd.R_lower (Kd.R_new' (Kd.R_new' ho0 (Kd.R_lt (ro_ HO595.out))) (Kd.R_lt (ro_ HO598.out))) (below_size (bw2_ HB.out GE588.out GE589.out)))
   have HO608 := sd_ (Kd.R_lower (Kd.R_new' (Kd.R_new' ho1 (Kd.R_lt (ro_ HO595.out))) (Kd.R_lt (ro_ HO598.out))) (below_size (bw2_ HB.out GE588.out GE589.out)))
   replace HO595 := sd_ (Kd.R_mono (Kd.R_told (Kd.R_told (Kd.R_old (ro_ HO595.out) hb) (Kd.R_base ho0)) (Kd.R_base ho1)) (fun _ h_ => h_.1))
   replace HO598 := sd_ (Kd.R_mono (Kd.R_told (Kd.R_told (Kd.R_old (ro_ HO598.out) hb) (Kd.R_base ho0)) (Kd.R_base ho1)) (fun _ h_ => h_.1))
   have HO611 := sd_ (Kd.R_lower (Kd.R_new' ho2 (Kd.R_lt (ro_ HO601.out))) (below_size (bw2_ HB.out GE588.out GE589.out)))
   replace HO601 := sd_ (Kd.R_elder' (ro_ HO601.out) (Kd.R_base ho2) hb)
   replace BK588 := sd_ (bb_ BK588.out hb)
   replace BK589 := sd_ (bb_ BK589.out hb)
   replace HB := sd_ (below_step (bw2_ HB.out GE588.out GE589.out) hb)
   (try clear hb)
   (try clear hb2)
   (try clear hk)
   (try clear hi)
   (try clear ho0)
   (try clear ho1)
   (try clear ho2)
   obtain ⟨Ao37, co37, eo37⟩ := Kd.R_slice HO595.out
   (first | subst eo37 | (injection eo37 with f1_ f2_ f3_; have f4_ := f1_.symm; have f5_ := f3_.symm; clear f1_ f2_ f3_; subst f4_; subst f5_))
   obtain ⟨Ao38, co38, eo38⟩ := Kd.R_slice HO598.out
   (first | subst eo38 | (injection eo38 with f1_ f2_ f3_; have f4_ := f1_.symm; have f5_ := f3_.symm; clear f1_ f2_ f3_; subst f4_; subst f5_))
   obtain ⟨Ao39, co39, eo39⟩ := Kd.R_slice HO601.out
   (first | subst eo39 | (injection eo39 with f1_ f2_ f3_; have f4_ := f1_.symm; have f5_ := f3_.symm; clear f1_ f2_ f3_; subst f4_; subst f5_))
   obtain ⟨Ao40, co40, eo40⟩ := Kd.R_slice HO605.out
   (first | subst eo40 | (injection eo40 with f1_ f2_ f3_; have f4_ := f1_.symm; have f5_ := f3_.symm; clear f1_ f2_ f3_; subst f4_; subst f5_))
   obtain ⟨Ao41, co41, eo41⟩ := Kd.R_slice HO608.out
   (first | subst eo41 | (injection eo41 with f1_ f2_ f3_; have f4_ := f1_.symm; have f5_ := f3_.symm; clear f1_ f2_ f3_; subst f4_; subst f5_))
   obtain ⟨Ao42, co42, eo42⟩ := Kd.R_slice HO611.out
   (first | subst eo42 | (injection eo42 with f1_ f2_ f3_; have f4_ := f1_.symm; have f5_ := f3_.symm; clear f1_ f2_ f3_; subst f4_; subst f5_))
   refine hK.out _ _ ⟨(blk_cell BK588.out 0).trans rfl, (blk_cell BK588.out 1).trans rfl, (blk_cell BK588.out 2).trans rfl, (blk_cell BK588.out 3).trans rfl, (blk_cell BK589.out 0).trans rfl, (blk_cell BK589.out 1).trans rfl, (blk_cell BK589.out 2).trans rfl, (blk_cell BK589.out 3).trans rfl⟩ (fun hHeld => ?_)
   clear hK K
   refine norm_ (a' := ?_) ?_ ?_
   rotate_left
   ·show Act.put _ (some 28) _ = _
    simp only [Act.put, List.setIfInBounds_toArray, List.set_cons_zero, List.set_cons_succ, i64_w, i32_w]
    rfl
   refine one_ (i := 5) (N := some 30) #[true, true, true, true, true, true, false, false, false, false, false] rfl rfl (one_of HT_.out (by kernel_rfl)) (by decide) (fun K hK => ?_)
   refine goes_ Try.func26 (by kernel_rfl) rfl #[.agg #[.int .i64 t592, .slice Ao37 t593.length co37, .slice Ao38 t596.length co38, .slice Ao39 t599.length co39], .agg #[.int .i64 t602, .slice Ao40 t603.length co40, .slice Ao41 t606.length co41, .slice Ao42 t609.length co42], .int .i64 a2] (by rfl) rfl rfl (by (try simp only [List.map_toArray, List.map_cons, List.map_nil]); first | done | rfl | (simp only [List.length_drop, List.length_take]; rfl)) ?_
   with_reducible refine (spec_PartsOfGrade.calls k t592 _ _ t593 _ _ t596 _ _ t599 t602 _ _ t603 _ _ t606 _ _ t609 a2 t612 t613 _ ?side1 ?side2 ?side3 ?side4 ?side5 ?side6 ?side7 ?side8 ?side9 ?side10 ?side11 ?side12 A22.out).mono ?_
   (case side1 => exact kp_ (Kd.R_reads' HO595.out).2.2)
   (case side2 => exact (Kd.R_reads' HO595.out).2.1)
   (case side3 => exact kp_ (Kd.R_reads' HO598.out).2.2)
   (case side4 => exact (Kd.R_reads' HO598.out).2.1)
   (case side5 => exact kp_ (Kd.R_reads' HO601.out).2.2)
   (case side6 => exact (Kd.R_reads' HO601.out).2.1)
   (case side7 => exact kp_ (Kd.R_reads' HO605.out).2.2)
   (case side8 => exact (Kd.R_reads' HO605.out).2.1)
   (case side9 => exact kp_ (Kd.R_reads' HO608.out).2.2)
   (case side10 => exact (Kd.R_reads' HO608.out).2.1)
   (case side11 => exact kp_ (Kd.R_reads' HO611.out).2.2)
   (case side12 => exact (Kd.R_reads' HO611.out).2.1)
   rintro e w43 ⟨rfl, hb⟩
   refine ⟨_, rfl, ?_⟩
   replace HO595 := sd_ (Kd.R_below (ro_ HO595.out) hb)
   replace HO598 := sd_ (Kd.R_below (ro_ HO598.out) hb)
   replace HO601 := sd_ (Kd.R_below (ro_ HO601.out) hb)
   replace HO605 := sd_ (Kd.R_below (ro_ HO605.out) hb)
   replace HO608 := sd_ (Kd.R_below (ro_ HO608.out) hb)
   replace HO611 := sd_ (Kd.R_below (ro_ HO611.out) hb)
   replace BK588 := sd_ (bb_ BK588.out hb)
   replace BK589 := sd_ (bb_ BK589.out hb)
   replace HB := sd_ (below_step (bw2_ HB.out GE588.out GE589.out) hb)
   (try clear hb)
   (try clear hb2)
   (try clear hk)
   (try clear hi)
   refine hK.out _ _ ⟨(blk_cell BK588.out 0).trans rfl, (blk_cell BK588.out 1).trans rfl, (blk_cell BK588.out 2).trans rfl, (blk_cell BK588.out 3).trans rfl, (blk_cell BK589.out 0).trans rfl, (blk_cell BK589.out 1).trans rfl, (blk_cell BK589.out 2).trans rfl, (blk_cell BK589.out 3).trans rfl⟩ (fun hHeld => ?_)
   clear hK K
   refine norm_ (a' := ?_) ?_ ?_
   rotate_left
   ·show Act.put _ (some 30) _ = _
    simp only [Act.put, List.setIfInBounds_toArray, List.set_cons_zero, List.set_cons_succ, i64_w, i32_w]
    rfl
   refine pure_ (i := 6) (N := some 24) (v := ?_) (a' := ?_) #[true, true, true, true, true, true, true, false, false, false, false] rfl rfl (any_of HT_.out (by kernel_rfl)) (fun _ _ _ h => h) (Or.inl ⟨by rfl, ?_⟩) ?_ ?_
   rotate_left
   ·intro w'
    go_simp
    with_reducible rfl
   rotate_left
   ·simp only [Act.put, List.setIfInBounds_toArray, List.set_cons_zero, List.set_cons_succ, i64_w, i32_w]
    rfl
   refine pure_ (i := 7) (N := some 31) (v := ?_) (a' := ?_) #[true, true, true, true, true, true, true, true, false, false, false] rfl rfl (any_of HT_.out (by kernel_rfl)) (fun _ _ _ h => h) (Or.inl ⟨by rfl, ?_⟩) ?_ ?_
   rotate_left
   ·intro w'
    go_simp
    with_reducible rfl
   rotate_left
   ·simp only [Act.put, List.setIfInBounds_toArray, List.set_cons_zero, List.set_cons_succ, i64_w, i32_w]
    rfl
   refine pure_ (i := 8) (N := some 32) (v := ?_) (a' := ?_) #[true, true, true, true, true, true, true, true, true, false, false] rfl rfl (any_of HT_.out (by kernel_rfl)) (fun _ _ _ h => h) (Or.inl ⟨by rfl, ?_⟩) ?_ ?_
   rotate_left
   ·intro w'
    go_simp
    with_reducible rfl
   rotate_left
   ·simp only [Act.put, List.setIfInBounds_toArray, List.set_cons_zero, List.set_cons_succ, i64_w, i32_w]
    rfl
   refine pure_ (i := 9) (N := some 8) (v := ?_) (a' := ?_) #[true, true, true, true, true, true, true, true, true, true, false] rfl rfl (any_of HT_.out (by kernel_rfl)) (fun _ _ _ h => h) (Or.inl ⟨by rfl, ?_⟩) ?_ ?_
   rotate_left
   ·intro w'
    go_simp
    with_reducible rfl
   rotate_left
   ·simp only [Act.put, List.setIfInBounds_toArray, List.set_cons_zero, List.set_cons_succ, i64_w, i32_w]
    rfl
   refine pure_ (i := 10) (N := some 9) (v := ?_) (a' := ?_) #[true, true, true, true, true, true, true, true, true, true, true] rfl rfl (any_of HT_.out (by kernel_rfl)) (fun _ _ _ h => h) (Or.inl ⟨by rfl, ?_⟩) ?_ ?_
   rotate_left
   ·intro w'
    go_simp
    with_reducible rfl
   rotate_left
   ·simp only [Act.put, List.setIfInBounds_toArray, List.set_cons_zero, List.set_cons_succ, i64_w, i32_w]
    rfl
   refine done_ (done_of HT_.out (by kernel_rfl)) ?_
   have hcz44_0 : w43.cell? ⟨gb588, 0, none⟩ = some (.int .i64 a0_0) := (blk_cell BK588.out 0).trans rfl
   have hcz44_1 : w43.cell? ⟨gb588, 1, none⟩ = some (.slice A0_1 l0_1.length c0_1) := (blk_cell BK588.out 1).trans rfl
   have hcz44_2 : w43.cell? ⟨gb588, 2, none⟩ = some (.slice A0_2 l0_2.length c0_2) := (blk_cell BK588.out 2).trans rfl
   have hcz44_3 : w43.cell? ⟨gb588, 3, none⟩ = some (.slice A0_3 l0_3.length c0_3) := (blk_cell BK588.out 3).trans rfl
   have hfz44_0 := blk_frozen BK588.out 0
   have hfz44_1 := blk_frozen BK588.out 1
   have hfz44_2 := blk_frozen BK588.out 2
   have hfz44_3 := blk_frozen BK588.out 3
   go_upto_region 12 with (first | ((with_reducible refine gate_callee (f := 24) rfl ?_); refine goesL_ (some 34) rfl rfl Try.func24 (by kernel_rfl) rfl #[.agg #[.int .i64 a0_0, .slice A0_1 l0_1.length c0_1, .slice A0_2 l0_2.length c0_2, .slice A0_3 l0_3.length c0_3]] rfl (by (try simp only [List.map_toArray, List.map_cons, List.map_nil]); first | done | rfl | (simp only [List.length_drop, List.length_take]; rfl)) ?_; (with_reducible refine (laws_toSystem.calls k a0_0 _ _ l0_1 _ _ l0_2 _ _ l0_3 t614 t615 t618 t621 _ ?side1 ?side2 ?side3 ?side4 ?side5 ?side6 A23.out).mono ?_); (case side1 => exact kc_ HR0_1.out HB.out); (case side2 => exact HC0_1.out); (case side3 => exact kc_ HR0_2.out HB.out); (case side4 => exact HC0_2.out); (case side5 => exact kc_ HR0_3.out HB.out); (case side6 => exact HC0_3.out); rintro e w45 ⟨v616, v619, v622, rfl, ho0, ho1, ho2, hb⟩; refine ⟨_, rfl, ?_⟩; have HO617 := sd_ (Kd.R_lower (Kd.R_new' (Kd.R_new' (Kd.R_new' (Kd.R_new' ho0 (Kd.R_lt (ro_ HO595.out))) (Kd.R_lt (ro_ HO598.out))) (Kd.R_lt (ro_ HO605.out))) (Kd.R_lt (ro_ HO608.out))) (below_size (bw2_ HB.out GE588.out GE589.out))); have HO620 := sd_ (Kd.R_lower (Kd.R_new' (Kd.R_new' (Kd.R_new' (Kd.R_new' ho1 (Kd.R_lt (ro_ HO595.out))) (Kd.R_lt (ro_ HO598.out))) (Kd.R_lt (ro_ HO605.out))) (Kd.R_lt (ro_ HO608.out))) (below_size (bw2_ HB.out GE588.out GE589.out))); replace HO595 := sd_ (Kd.R_mono (Kd.R_told (Kd.R_told (Kd.R_old (ro_ HO595.out) hb) (Kd.R_base ho0)) (Kd.R_base ho1)) (fun _ h_ => h_.1)); replace HO598 := sd_ (Kd.R_mono (Kd.R_told (Kd.R_told (Kd.R_old (ro_ HO598.out) hb) (Kd.R_base ho0)) (Kd.R_base ho1)) (fun _ h_ => h_.1)); replace HO605 := sd_ (Kd.R_mono (Kd.R_told (Kd.R_told (Kd.R_old (ro_ HO605.out) hb) (Kd.R_base ho0)) (Kd.R_base ho1)) (fun _ h_ => h_.1)); replace HO608 := sd_ (Kd.R_mono (Kd.R_told (Kd.R_told (Kd.R_old (ro_ HO608.out) hb) (Kd.R_base ho0)) (Kd.R_base ho1)) (fun _ h_ => h_.1)); have HO623 := sd_ (Kd.R_lower (Kd.R_new' (Kd.R_new' ho2 (Kd.R_lt (ro_ HO601.out))) (Kd.R_lt (ro_ HO611.out))) (below_size (bw2_ HB.out GE588.out GE589.out))); replace HO601 := sd_ (Kd.R_elder' (ro_ HO601.out) (Kd.R_base ho2) hb); replace HO611 := sd_ (Kd.R_elder' (ro_ HO611.out) (Kd.R_base ho2) hb); replace BK588 := sd_ (bb_ BK588.out hb); replace BK589 := sd_ (bb_ BK589.out hb); replace HB := sd_ (below_step (bw2_ HB.out GE588.out GE589.out) hb); (try clear hb); (try clear hb2); (try clear hk); (try clear hi); (try clear ho0); (try clear ho1); (try clear ho2)) | ((with_reducible refine gate_dst (N := 10) rfl ?_); refine box_event ?hg (N := 10) ?hd (cs := #[.int .i64 0, .slice none 0 0, .slice none 0 0, .slice none 0 0]) (t := 27) ?hr ?_; (case hd => rfl); (case hg => rfl); (case hr => first | (go_simp; done) | (go_simp; rfl)); intro gb624 hg w46 hbox hb; replace HO595 := sd_ (Kd.R_below (ro_ HO595.out) hb); replace HO598 := sd_ (Kd.R_below (ro_ HO598.out) hb); replace HO601 := sd_ (Kd.R_below (ro_ HO601.out) hb); replace HO605 := sd_ (Kd.R_below (ro_ HO605.out) hb); replace HO608 := sd_ (Kd.R_below (ro_ HO608.out) hb); replace HO611 := sd_ (Kd.R_below (ro_ HO611.out) hb); replace HO617 := sd_ (Kd.R_below (ro_ HO617.out) hb); replace HO620 := sd_ (Kd.R_below (ro_ HO620.out) hb); replace HO623 := sd_ (Kd.R_below (ro_ HO623.out) hb); have BK624 := sd_ (hbox); have GW624 := sd_ ((by rw [hg]; exact (below_size (bw2_ HB.out GE588.out GE589.out)) : w.heap.size ≤ gb624)); have GE624 := sd_ ((by rw [hg]; exact (below_size (bw2_ HB.out GE588.out GE589.out)) : w.heap.size ≤ gb624)); replace HB := sd_ (below_step (bw2_ HB.out GE588.out GE589.out) hb); have NB588_624 := sd_ ((by rw [hg]; exact Nat.ne_of_lt (bl_ BK588.out) : gb588 ≠ gb624)); have NB624_588 := sd_ ((by rw [hg]; exact Nat.ne_of_gt (bl_ BK588.out) : gb624 ≠ gb588)); replace BK588 := sd_ (bb_ BK588.out hb); have NB589_624 := sd_ ((by rw [hg]; exact Nat.ne_of_lt (bl_ BK589.out) : gb589 ≠ gb624)); have NB624_589 := sd_ ((by rw [hg]; exact Nat.ne_of_gt (bl_ BK589.out) : gb624 ≠ gb589)); replace BK589 := sd_ (bb_ BK589.out hb); clear hb hbox hg; have hnb47 := NB624_588.out; have hnc47 := NB588_624.out; have hnb48 := NB624_589.out; have hnc48 := NB589_624.out; have hcz49_0 : w46.cell? ⟨gb624, 0, none⟩ = some (.int .i64 0) := (blk_cell BK624.out 0).trans rfl; have hcz49_1 : w46.cell? ⟨gb624, 1, none⟩ = some (.slice none 0 0) := (blk_cell BK624.out 1).trans rfl; have hcz49_2 : w46.cell? ⟨gb624, 2, none⟩ = some (.slice none 0 0) := (blk_cell BK624.out 2).trans rfl; have hcz49_3 : w46.cell? ⟨gb624, 3, none⟩ = some (.slice none 0 0) := (blk_cell BK624.out 3).trans rfl; have hfz49_0 := blk_frozen BK624.out 0; have hfz49_1 := blk_frozen BK624.out 1; have hfz49_2 := blk_frozen BK624.out 2; have hfz49_3 := blk_frozen BK624.out 3; obtain ⟨Ao50, co50, eo50⟩ := Kd.R_slice HO617.out; subst eo50; obtain ⟨Ao51, co51, eo51⟩ := Kd.R_slice HO620.out; subst eo51; obtain ⟨Ao52, co52, eo52⟩ := Kd.R_slice HO623.out; subst eo52; have hcz53_0 : w46.cell? ⟨gb589, 0, none⟩ = some (.int .i64 a1_0) := (blk_cell BK589.out 0).trans rfl; have hcz53_1 : w46.cell? ⟨gb589, 1, none⟩ = some (.slice A1_1 l1_1.length c1_1) := (blk_cell BK589.out 1).trans rfl; have hcz53_2 : w46.cell? ⟨gb589, 2, none⟩ = some (.slice A1_2 l1_2.length c1_2) := (blk_cell BK589.out 2).trans rfl; have hcz53_3 : w46.cell? ⟨gb589, 3, none⟩ = some (.slice A1_3 l1_3.length c1_3) := (blk_cell BK589.out 3).trans rfl; have hfz53_0 := blk_frozen BK589.out 0; have hfz53_1 := blk_frozen BK589.out 1; have hfz53_2 := blk_frozen BK589.out 2; have hfz53_3 := blk_frozen BK589.out 3) | ((with_reducible refine gate_callee (f := 24) rfl ?_); refine goesL_ (some 36) rfl rfl Try.func24 (by kernel_rfl) rfl #[.agg #[.int .i64 a1_0, .slice A1_1 l1_1.length c1_1, .slice A1_2 l1_2.length c1_2, .slice A1_3 l1_3.length c1_3]] rfl (by (try simp only [List.map_toArray, List.map_cons, List.map_nil]); first | done | rfl | (simp only [List.length_drop, List.length_take]; rfl)) ?_; (with_reducible refine (laws_toSystem.calls k a1_0 _ _ l1_1 _ _ l1_2 _ _ l1_3 t625 t626 t629 t632 _ ?side1 ?side2 ?side3 ?side4 ?side5 ?side6 A24.out).mono ?_); (case side1 => exact Kd.C_below HR1_1.out (bw3_ HB.out GE588.out GE589.out GE624.out)); (case side2 => exact HC1_1.out); (case side3 => exact Kd.C_below HR1_2.out (bw3_ HB.out GE588.out GE589.out GE624.out)); (case side4 => exact HC1_2.out); (case side5 => exact Kd.C_below HR1_3.out (bw3_ HB.out GE588.out GE589.out GE624.out)); (case side6 => exact HC1_3.out); rintro e w54 ⟨v627, v630, v633, rfl, ho0, ho1, ho2, hb⟩; refine ⟨_, rfl, ?_⟩; have HO628 := sd_ (Kd.R_lower (Kd.R_new' (Kd.R_new' (Kd.R_new' (Kd.R_new' (Kd.R_new' (Kd.R_new' ho0 (Kd.R_lt (by (with_reducible repeat (first | apply Kd.R_alloc | apply Kd.R_drewN | apply Kd.R_drew)); exact (Kd.R_mono (Kd.R_far (p := ⟨gb624, 3, none⟩) (Kd.R_far (p := ⟨gb624, 2, none⟩) (Kd.R_far (p := ⟨gb624, 1, none⟩) (Kd.R_far (p := ⟨gb624, 0, none⟩) (Kd.R_types HO595.out BK624.out (by decide)) (fun _ hk => hk.2) (.int .i64 t614)) (fun _ hk => hk.2) (.slice Ao50 t615.length co50)) (fun _ hk => hk.2) (.slice Ao51 t618.length co51)) (fun _ hk => hk.2) (.slice Ao52 t621.length co52)) (fun _ h_ => h_.1))))) (Kd.R_lt (by (with_reducible repeat (first | apply Kd.R_alloc | apply Kd.R_drewN | apply Kd.R_drew)); exact (Kd.R_mono (Kd.R_far (p := ⟨gb624, 3, none⟩) (Kd.R_far (p := ⟨gb624, 2, none⟩) (Kd.R_far (p := ⟨gb624, 1, none⟩) (Kd.R_far (p := ⟨gb624, 0, none⟩) (Kd.R_types HO598.out BK624.out (by decide)) (fun _ hk => hk.2) (.int .i64 t614)) (fun _ hk => hk.2) (.slice Ao50 t615.length co50)) (fun _ hk => hk.2) (.slice Ao51 t618.length co51)) (fun _ hk => hk.2) (.slice Ao52 t621.length co52)) (fun _ h_ => h_.1))))) (Kd.R_lt (by (with_reducible repeat (first | apply Kd.R_alloc | apply Kd.R_drewN | apply Kd.R_drew)); exact (Kd.R_mono (Kd.R_far (p := ⟨gb624, 3, none⟩) (Kd.R_far (p := ⟨gb624, 2, none⟩) (Kd.R_far (p := ⟨gb624, 1, none⟩) (Kd.R_far (p := ⟨gb624, 0, none⟩) (Kd.R_types HO605.out BK624.out (by decide)) (fun _ hk => hk.2) (.int .i64 t614)) (fun _ hk => hk.2) (.slice Ao50 t615.length co50)) (fun _ hk => hk.2) (.slice Ao51 t618.length co51)) (fun _ hk => hk.2) (.slice Ao52 t621.length co52)) (fun _ h_ => h_.1))))) (Kd.R_lt (by (with_reducible repeat (first | apply Kd.R_alloc | apply Kd.R_drewN | apply Kd.R_drew)); exact (Kd.R_mono (Kd.R_far (p := ⟨gb624, 3, none⟩) (Kd.R_far (p := ⟨gb624, 2, none⟩) (Kd.R_far (p := ⟨gb624, 1, none⟩) (Kd.R_far (p := ⟨gb624, 0, none⟩) (Kd.R_types HO608.out BK624.out (by decide)) (fun _ hk => hk.2) (.int .i64 t614)) (fun _ hk => hk.2) (.slice Ao50 t615.length co50)) (fun _ hk => hk.2) (.slice Ao51 t618.length co51)) (fun _ hk => hk.2) (.slice Ao52 t621.length co52)) (fun _ h_ => h_.1))))) (Kd.R_lt (by (with_reducible repeat (first | apply Kd.R_alloc | apply Kd.R_drewN | apply Kd.R_drew)); exact (Kd.R_mono (Kd.R_far (p := ⟨gb624, 3, none⟩) (Kd.R_far (p := ⟨gb624, 2, none⟩) (Kd.R_far (p := ⟨gb624, 1, none⟩) (Kd.R_far (p := ⟨gb624, 0, none⟩) (Kd.R_types HO617.out BK624.out (by decide)) (fun _ hk => hk.2) (.int .i64 t614)) (fun _ hk => hk.2) (.slice Ao50 t615.length co50)) (fun _ hk => hk.2) (.slice Ao51 t618.length co51)) (fun _ hk => hk.2) (.slice Ao52 t621.length co52)) (fun _ h_ => h_.1))))) (Kd.R_lt (by (with_reducible repeat (first | apply Kd.R_alloc | apply Kd.R_drewN | apply Kd.R_drew)); exact (Kd.R_mono (Kd.R_far (p := ⟨gb624, 3, none⟩) (Kd.R_far (p := ⟨gb624, 2, none⟩) (Kd.R_far (p := ⟨gb624, 1, none⟩) (Kd.R_far (p := ⟨gb624, 0, none⟩) (Kd.R_types HO620.out BK624.out (by decide)) (fun _ hk => hk.2) (.int .i64 t614)) (fun _ hk => hk.2) (.slice Ao50 t615.length co50)) (fun _ hk => hk.2) (.slice Ao51 t618.length co51)) (fun _ hk => hk.2) (.slice Ao52 t621.length co52)) (fun _ h_ => h_.1))))) (below_size (bw3_ HB.out GE588.out GE589.out GE624.out))); have HO631 := sd_ (Kd.R_lower (Kd.R_new' (Kd.R_new' (Kd.R_new' (Kd.R_new' (Kd.R_new' (Kd.R_new' ho1 (Kd.R_lt (by (with_reducible repeat (first | apply Kd.R_alloc | apply Kd.R_drewN | apply Kd.R_drew)); exact (Kd.R_mono (Kd.R_far (p := ⟨gb624, 3, none⟩) (Kd.R_far (p := ⟨gb624, 2, none⟩) (Kd.R_far (p := ⟨gb624, 1, none⟩) (Kd.R_far (p := ⟨gb624, 0, none⟩) (Kd.R_types HO595.out BK624.out (by decide)) (fun _ hk => hk.2) (.int .i64 t614)) (fun _ hk => hk.2) (.slice Ao50 t615.length co50)) (fun _ hk => hk.2) (.slice Ao51 t618.length co51)) (fun _ hk => hk.2) (.slice Ao52 t621.length co52)) (fun _ h_ => h_.1))))) (Kd.R_lt (by (with_reducible repeat (first | apply Kd.R_alloc | apply Kd.R_drewN | apply Kd.R_drew)); exact (Kd.R_mono (Kd.R_far (p := ⟨gb624, 3, none⟩) (Kd.R_far (p := ⟨gb624, 2, none⟩) (Kd.R_far (p := ⟨gb624, 1, none⟩) (Kd.R_far (p := ⟨gb624, 0, none⟩) (Kd.R_types HO598.out BK624.out (by decide)) (fun _ hk => hk.2) (.int .i64 t614)) (fun _ hk => hk.2) (.slice Ao50 t615.length co50)) (fun _ hk => hk.2) (.slice Ao51 t618.length co51)) (fun _ hk => hk.2) (.slice Ao52 t621.length co52)) (fun _ h_ => h_.1))))) (Kd.R_lt (by (with_reducible repeat (first | apply Kd.R_alloc | apply Kd.R_drewN | apply Kd.R_drew)); exact (Kd.R_mono (Kd.R_far (p := ⟨gb624, 3, none⟩) (Kd.R_far (p := ⟨gb624, 2, none⟩) (Kd.R_far (p := ⟨gb624, 1, none⟩) (Kd.R_far (p := ⟨gb624, 0, none⟩) (Kd.R_types HO605.out BK624.out (by decide)) (fun _ hk => hk.2) (.int .i64 t614)) (fun _ hk => hk.2) (.slice Ao50 t615.length co50)) (fun _ hk => hk.2) (.slice Ao51 t618.length co51)) (fun _ hk => hk.2) (.slice Ao52 t621.length co52)) (fun _ h_ => h_.1))))) (Kd.R_lt (by (with_reducible repeat (first | apply Kd.R_alloc | apply Kd.R_drewN | apply Kd.R_drew)); exact (Kd.R_mono (Kd.R_far (p := ⟨gb624, 3, none⟩) (Kd.R_far (p := ⟨gb624, 2, none⟩) (Kd.R_far (p := ⟨gb624, 1, none⟩) (Kd.R_far (p := ⟨gb624, 0, none⟩) (Kd.R_types HO608.out BK624.out (by decide)) (fun _ hk => hk.2) (.int .i64 t614)) (fun _ hk => hk.2) (.slice Ao50 t615.length co50)) (fun _ hk => hk.2) (.slice Ao51 t618.length co51)) (fun _ hk => hk.2) (.slice Ao52 t621.length co52)) (fun _ h_ => h_.1))))) (Kd.R_lt (by (with_reducible repeat (first | apply Kd.R_alloc | apply Kd.R_drewN | apply Kd.R_drew)); exact (Kd.R_mono (Kd.R_far (p := ⟨gb624, 3, none⟩) (Kd.R_far (p := ⟨gb624, 2, none⟩) (Kd.R_far (p := ⟨gb624, 1, none⟩) (Kd.R_far (p := ⟨gb624, 0, none⟩) (Kd.R_types HO617.out BK624.out (by decide)) (fun _ hk => hk.2) (.int .i64 t614)) (fun _ hk => hk.2) (.slice Ao50 t615.length co50)) (fun _ hk => hk.2) (.slice Ao51 t618.length co51)) (fun _ hk => hk.2) (.slice Ao52 t621.length co52)) (fun _ h_ => h_.1))))) (Kd.R_lt (by (with_reducible repeat (first | apply Kd.R_alloc | apply Kd.R_drewN | apply Kd.R_drew)); exact (Kd.R_mono (Kd.R_far (p := ⟨gb624, 3, none⟩) (Kd.R_far (p := ⟨gb624, 2, none⟩) (Kd.R_far (p := ⟨gb624, 1, none⟩) (Kd.R_far (p := ⟨gb624, 0, none⟩) (Kd.R_types HO620.out BK624.out (by decide)) (fun _ hk => hk.2) (.int .i64 t614)) (fun _ hk => hk.2) (.slice Ao50 t615.length co50)) (fun _ hk => hk.2) (.slice Ao51 t618.length co51)) (fun _ hk => hk.2) (.slice Ao52 t621.length co52)) (fun _ h_ => h_.1))))) (below_size (bw3_ HB.out GE588.out GE589.out GE624.out))); replace HO595 := sd_ (Kd.R_mono (Kd.R_told (Kd.R_told (Kd.R_old (by (with_reducible repeat (first | apply Kd.R_alloc | apply Kd.R_drewN | apply Kd.R_drew)); exact (Kd.R_mono (Kd.R_far (p := ⟨gb624, 3, none⟩) (Kd.R_far (p := ⟨gb624, 2, none⟩) (Kd.R_far (p := ⟨gb624, 1, none⟩) (Kd.R_far (p := ⟨gb624, 0, none⟩) (Kd.R_types HO595.out BK624.out (by decide)) (fun _ hk => hk.2) (.int .i64 t614)) (fun _ hk => hk.2) (.slice Ao50 t615.length co50)) (fun _ hk => hk.2) (.slice Ao51 t618.length co51)) (fun _ hk => hk.2) (.slice Ao52 t621.length co52)) (fun _ h_ => h_.1))) hb) (Kd.R_base ho0)) (Kd.R_base ho1)) (fun _ h_ => h_.1)); replace HO598 := sd_ (Kd.R_mono (Kd.R_told (Kd.R_told (Kd.R_old (by (with_reducible repeat (first | apply Kd.R_alloc | apply Kd.R_drewN | apply Kd.R_drew)); exact (Kd.R_mono (Kd.R_far (p := ⟨gb624, 3, none⟩) (Kd.R_far (p := ⟨gb624, 2, none⟩) (Kd.R_far (p := ⟨gb624, 1, none⟩) (Kd.R_far (p := ⟨gb624, 0, none⟩) (Kd.R_types HO598.out BK624.out (by decide)) (fun _ hk => hk.2) (.int .i64 t614)) (fun _ hk => hk.2) (.slice Ao50 t615.length co50)) (fun _ hk => hk.2) (.slice Ao51 t618.length co51)) (fun _ hk => hk.2) (.slice Ao52 t621.length co52)) (fun _ h_ => h_.1))) hb) (Kd.R_base ho0)) (Kd.R_base ho1)) (fun _ h_ => h_.1)); replace HO605 := sd_ (Kd.R_mono (Kd.R_told (Kd.R_told (Kd.R_old (by (with_reducible repeat (first | apply Kd.R_alloc | apply Kd.R_drewN | apply Kd.R_drew)); exact (Kd.R_mono (Kd.R_far (p := ⟨gb624, 3, none⟩) (Kd.R_far (p := ⟨gb624, 2, none⟩) (Kd.R_far (p := ⟨gb624, 1, none⟩) (Kd.R_far (p := ⟨gb624, 0, none⟩) (Kd.R_types HO605.out BK624.out (by decide)) (fun _ hk => hk.2) (.int .i64 t614)) (fun _ hk => hk.2) (.slice Ao50 t615.length co50)) (fun _ hk => hk.2) (.slice Ao51 t618.length co51)) (fun _ hk => hk.2) (.slice Ao52 t621.length co52)) (fun _ h_ => h_.1))) hb) (Kd.R_base ho0)) (Kd.R_base ho1)) (fun _ h_ => h_.1)); replace HO608 := sd_ (Kd.R_mono (Kd.R_told (Kd.R_told (Kd.R_old (by (with_reducible repeat (first | apply Kd.R_alloc | apply Kd.R_drewN | apply Kd.R_drew)); exact (Kd.R_mono (Kd.R_far (p := ⟨gb624, 3, none⟩) (Kd.R_far (p := ⟨gb624, 2, none⟩) (Kd.R_far (p := ⟨gb624, 1, none⟩) (Kd.R_far (p := ⟨gb624, 0, none⟩) (Kd.R_types HO608.out BK624.out (by decide)) (fun _ hk => hk.2) (.int .i64 t614)) (fun _ hk => hk.2) (.slice Ao50 t615.length co50)) (fun _ hk => hk.2) (.slice Ao51 t618.length co51)) (fun _ hk => hk.2) (.slice Ao52 t621.length co52)) (fun _ h_ => h_.1))) hb) (Kd.R_base ho0)) (Kd.R_base ho1)) (fun _ h_ => h_.1)); replace HO617 := sd_ (Kd.R_mono (Kd.R_told (Kd.R_told (Kd.R_old (by (with_reducible repeat (first | apply Kd.R_alloc | apply Kd.R_drewN | apply Kd.R_drew)); exact (Kd.R_mono (Kd.R_far (p := ⟨gb624, 3, none⟩) (Kd.R_far (p := ⟨gb624, 2, none⟩) (Kd.R_far (p := ⟨gb624, 1, none⟩) (Kd.R_far (p := ⟨gb624, 0, none⟩) (Kd.R_types HO617.out BK624.out (by decide)) (fun _ hk => hk.2) (.int .i64 t614)) (fun _ hk => hk.2) (.slice Ao50 t615.length co50)) (fun _ hk => hk.2) (.slice Ao51 t618.length co51)) (fun _ hk => hk.2) (.slice Ao52 t621.length co52)) (fun _ h_ => h_.1))) hb) (Kd.R_base ho0)) (Kd.R_base ho1)) (fun _ h_ => h_.1)); replace HO620 := sd_ (Kd.R_mono (Kd.R_told (Kd.R_told (Kd.R_old (by (with_reducible repeat (first | apply Kd.R_alloc | apply Kd.R_drewN | apply Kd.R_drew)); exact (Kd.R_mono (Kd.R_far (p := ⟨gb624, 3, none⟩) (Kd.R_far (p := ⟨gb624, 2, none⟩) (Kd.R_far (p := ⟨gb624, 1, none⟩) (Kd.R_far (p := ⟨gb624, 0, none⟩) (Kd.R_types HO620.out BK624.out (by decide)) (fun _ hk => hk.2) (.int .i64 t614)) (fun _ hk => hk.2) (.slice Ao50 t615.length co50)) (fun _ hk => hk.2) (.slice Ao51 t618.length co51)) (fun _ hk => hk.2) (.slice Ao52 t621.length co52)) (fun _ h_ => h_.1))) hb) (Kd.R_base ho0)) (Kd.R_base ho1)) (fun _ h_ => h_.1)); have HO634 := sd_ (Kd.R_lower (Kd.R_new' (Kd.R_new' (Kd.R_new' ho2 (Kd.R_lt (by (with_reducible repeat (first | apply Kd.R_alloc | apply Kd.R_drewN | apply Kd.R_drew)); exact (Kd.R_mono (Kd.R_far (p := ⟨gb624, 3, none⟩) (Kd.R_far (p := ⟨gb624, 2, none⟩) (Kd.R_far (p := ⟨gb624, 1, none⟩) (Kd.R_far (p := ⟨gb624, 0, none⟩) (Kd.R_types HO601.out BK624.out (by decide)) (fun _ hk => hk.2) (.int .i64 t614)) (fun _ hk => hk.2) (.slice Ao50 t615.length co50)) (fun _ hk => hk.2) (.slice Ao51 t618.length co51)) (fun _ hk => hk.2) (.slice Ao52 t621.length co52)) (fun _ h_ => h_.1))))) (Kd.R_lt (by (with_reducible repeat (first | apply Kd.R_alloc | apply Kd.R_drewN | apply Kd.R_drew)); exact (Kd.R_mono (Kd.R_far (p := ⟨gb624, 3, none⟩) (Kd.R_far (p := ⟨gb624, 2, none⟩) (Kd.R_far (p := ⟨gb624, 1, none⟩) (Kd.R_far (p := ⟨gb624, 0, none⟩) (Kd.R_types HO611.out BK624.out (by decide)) (fun _ hk => hk.2) (.int .i64 t614)) (fun _ hk => hk.2) (.slice Ao50 t615.length co50)) (fun _ hk => hk.2) (.slice Ao51 t618.length co51)) (fun _ hk => hk.2) (.slice Ao52 t621.length co52)) (fun _ h_ => h_.1))))) (Kd.R_lt (by (with_reducible repeat (first | apply Kd.R_alloc | apply Kd.R_drewN | apply Kd.R_drew)); exact (Kd.R_mono (Kd.R_far (p := ⟨gb624, 3, none⟩) (Kd.R_far (p := ⟨gb624, 2, none⟩) (Kd.R_far (p := ⟨gb624, 1, none⟩) (Kd.R_far (p := ⟨gb624, 0, none⟩) (Kd.R_types HO623.out BK624.out (by decide)) (fun _ hk => hk.2) (.int .i64 t614)) (fun _ hk => hk.2) (.slice Ao50 t615.length co50)) (fun _ hk => hk.2) (.slice Ao51 t618.length co51)) (fun _ hk => hk.2) (.slice Ao52 t621.length co52)) (fun _ h_ => h_.1))))) (below_size (bw3_ HB.out GE588.out GE589.out GE624.out))); replace HO601 := sd_ (Kd.R_elder' (by (with_reducible repeat (first | apply Kd.R_alloc | apply Kd.R_drewN | apply Kd.R_drew)); exact (Kd.R_mono (Kd.R_far (p := ⟨gb624, 3, none⟩) (Kd.R_far (p := ⟨gb624, 2, none⟩) (Kd.R_far (p := ⟨gb624, 1, none⟩) (Kd.R_far (p := ⟨gb624, 0, none⟩) (Kd.R_types HO601.out BK624.out (by decide)) (fun _ hk => hk.2) (.int .i64 t614)) (fun _ hk => hk.2) (.slice Ao50 t615.length co50)) (fun _ hk => hk.2) (.slice Ao51 t618.length co51)) (fun _ hk => hk.2) (.slice Ao52 t621.length co52)) (fun _ h_ => h_.1))) (Kd.R_base ho2) hb); replace HO611 := sd_ (Kd.R_elder' (by (with_reducible repeat (first | apply Kd.R_alloc | apply Kd.R_drewN | apply Kd.R_drew)); exact (Kd.R_mono (Kd.R_far (p := ⟨gb624, 3, none⟩) (Kd.R_far (p := ⟨gb624, 2, none⟩) (Kd.R_far (p := ⟨gb624, 1, none⟩) (Kd.R_far (p := ⟨gb624, 0, none⟩) (Kd.R_types HO611.out BK624.out (by decide)) (fun _ hk => hk.2) (.int .i64 t614)) (fun _ hk => hk.2) (.slice Ao50 t615.length co50)) (fun _ hk => hk.2) (.slice Ao51 t618.length co51)) (fun _ hk => hk.2) (.slice Ao52 t621.length co52)) (fun _ h_ => h_.1))) (Kd.R_base ho2) hb); replace HO623 := sd_ (Kd.R_elder' (by (with_reducible repeat (first | apply Kd.R_alloc | apply Kd.R_drewN | apply Kd.R_drew)); exact (Kd.R_mono (Kd.R_far (p := ⟨gb624, 3, none⟩) (Kd.R_far (p := ⟨gb624, 2, none⟩) (Kd.R_far (p := ⟨gb624, 1, none⟩) (Kd.R_far (p := ⟨gb624, 0, none⟩) (Kd.R_types HO623.out BK624.out (by decide)) (fun _ hk => hk.2) (.int .i64 t614)) (fun _ hk => hk.2) (.slice Ao50 t615.length co50)) (fun _ hk => hk.2) (.slice Ao51 t618.length co51)) (fun _ hk => hk.2) (.slice Ao52 t621.length co52)) (fun _ h_ => h_.1))) (Kd.R_base ho2) hb); replace BK588 := sd_ (blk_below (g := gb588) (o := .cells #[.int .i64 a0_0, .slice A0_1 l0_1.length c0_1, .slice A0_2 l0_2.length c0_2, .slice A0_3 l0_3.length c0_3] 37 (0, 0)) (by (with_reducible repeat (first | refine blk_drewN ?_ _ | refine blk_drew ?_ | refine blk_alloc ?_ _)); refine blk_far ?_ NB588_624.out _; (with_reducible repeat (first | refine blk_drewN ?_ _ | refine blk_drew ?_ | refine blk_alloc ?_ _)); refine blk_far ?_ NB588_624.out _; (with_reducible repeat (first | refine blk_drewN ?_ _ | refine blk_drew ?_ | refine blk_alloc ?_ _)); refine blk_far ?_ NB588_624.out _; (with_reducible repeat (first | refine blk_drewN ?_ _ | refine blk_drew ?_ | refine blk_alloc ?_ _)); refine blk_far ?_ NB588_624.out _; (with_reducible repeat (first | refine blk_drewN ?_ _ | refine blk_drew ?_ | refine blk_alloc ?_ _)); exact BK588.out) hb); replace BK589 := sd_ (blk_below (g := gb589) (o := .cells #[.int .i64 a1_0, .slice A1_1 l1_1.length c1_1, .slice A1_2 l1_2.length c1_2, .slice A1_3 l1_3.length c1_3] 37 (0, 0)) (by (with_reducible repeat (first | refine blk_drewN ?_ _ | refine blk_drew ?_ | refine blk_alloc ?_ _)); refine blk_far ?_ NB589_624.out _; (with_reducible repeat (first | refine blk_drewN ?_ _ | refine blk_drew ?_ | refine blk_alloc ?_ _)); refine blk_far ?_ NB589_624.out _; (with_reducible repeat (first | refine blk_drewN ?_ _ | refine blk_drew ?_ | refine blk_alloc ?_ _)); refine blk_far ?_ NB589_624.out _; (with_reducible repeat (first | refine blk_drewN ?_ _ | refine blk_drew ?_ | refine blk_alloc ?_ _)); refine blk_far ?_ NB589_624.out _; (with_reducible repeat (first | refine blk_drewN ?_ _ | refine blk_drew ?_ | refine blk_alloc ?_ _)); exact BK589.out) hb); replace BK624 := sd_ (blk_below (g := gb624) (o := .cells #[.int .i64 t614, .slice Ao50 t615.length co50, .slice Ao51 t618.length co51, .slice Ao52 t621.length co52] 27 (0, 0)) (by (with_reducible repeat (first | refine blk_drewN ?_ _ | refine blk_drew ?_ | refine blk_alloc ?_ _)); refine blk_put (cs := #[.int .i64 t614, .slice Ao50 t615.length co50, .slice Ao51 t618.length co51, .slice none 0 0]) ?_ 3 _ rfl; (with_reducible repeat (first | refine blk_drewN ?_ _ | refine blk_drew ?_ | refine blk_alloc ?_ _)); refine blk_put (cs := #[.int .i64 t614, .slice Ao50 t615.length co50, .slice none 0 0, .slice none 0 0]) ?_ 2 _ rfl; (with_reducible repeat (first | refine blk_drewN ?_ _ | refine blk_drew ?_ | refine blk_alloc ?_ _)); refine blk_put (cs := #[.int .i64 t614, .slice none 0 0, .slice none 0 0, .slice none 0 0]) ?_ 1 _ rfl; (with_reducible repeat (first | refine blk_drewN ?_ _ | refine blk_drew ?_ | refine blk_alloc ?_ _)); refine blk_put (cs := #[.int .i64 0, .slice none 0 0, .slice none 0 0, .slice none 0 0]) ?_ 0 _ rfl; (with_reducible repeat (first | refine blk_drewN ?_ _ | refine blk_drew ?_ | refine blk_alloc ?_ _)); exact BK624.out) hb); replace HB := sd_ (below_step (bw3_ HB.out GE588.out GE589.out GE624.out) hb); (try clear hb); (try clear hb2); (try clear hk); (try clear hi); (try clear ho0); (try clear ho1); (try clear ho2)) | ((with_reducible refine gate_dst (N := 11) rfl ?_); refine box_event ?hg (N := 11) ?hd (cs := #[.int .i64 0, .slice none 0 0, .slice none 0 0, .slice none 0 0]) (t := 27) ?hr ?_; (case hd => rfl); (case hg => rfl); (case hr => first | (go_simp; done) | (go_simp; rfl)); intro gb635 hg w55 hbox hb; replace HO595 := sd_ (Kd.R_below (ro_ HO595.out) hb); replace HO598 := sd_ (Kd.R_below (ro_ HO598.out) hb); replace HO601 := sd_ (Kd.R_below (ro_ HO601.out) hb); replace HO605 := sd_ (Kd.R_below (ro_ HO605.out) hb); replace HO608 := sd_ (Kd.R_below (ro_ HO608.out) hb); replace HO611 := sd_ (Kd.R_below (ro_ HO611.out) hb); replace HO617 := sd_ (Kd.R_below (ro_ HO617.out) hb); replace HO620 := sd_ (Kd.R_below (ro_ HO620.out) hb); replace HO623 := sd_ (Kd.R_below (ro_ HO623.out) hb); replace HO628 := sd_ (Kd.R_below (ro_ HO628.out) hb); replace HO631 := sd_ (Kd.R_below (ro_ HO631.out) hb); replace HO634 := sd_ (Kd.R_below (ro_ HO634.out) hb); have BK635 := sd_ (hbox); have GW635 := sd_ ((by rw [hg]; exact (below_size (bw3_ HB.out GE588.out GE589.out GE624.out)) : w.heap.size ≤ gb635)); have GE635 := sd_ ((by rw [hg]; exact (below_size (bw3_ HB.out GE588.out GE589.out GE624.out)) : w.heap.size ≤ gb635)); replace HB := sd_ (below_step (bw3_ HB.out GE588.out GE589.out GE624.out) hb); have NB588_635 := sd_ ((by rw [hg]; exact Nat.ne_of_lt (bl_ BK588.out) : gb588 ≠ gb635)); have NB635_588 := sd_ ((by rw [hg]; exact Nat.ne_of_gt (bl_ BK588.out) : gb635 ≠ gb588)); replace BK588 := sd_ (bb_ BK588.out hb); have NB589_635 := sd_ ((by rw [hg]; exact Nat.ne_of_lt (bl_ BK589.out) : gb589 ≠ gb635)); have NB635_589 := sd_ ((by rw [hg]; exact Nat.ne_of_gt (bl_ BK589.out) : gb635 ≠ gb589)); replace BK589 := sd_ (bb_ BK589.out hb); have NB624_635 := sd_ ((by rw [hg]; exact Nat.ne_of_lt (bl_ BK624.out) : gb624 ≠ gb635)); have NB635_624 := sd_ ((by rw [hg]; exact Nat.ne_of_gt (bl_ BK624.out) : gb635 ≠ gb624)); replace BK624 := sd_ (bb_ BK624.out hb); clear hb hbox hg; have hnb56 := NB635_588.out; have hnc56 := NB588_635.out; have hnb57 := NB635_589.out; have hnc57 := NB589_635.out; have hnb58 := NB635_624.out; have hnc58 := NB624_635.out; have hcz59_0 : w55.cell? ⟨gb635, 0, none⟩ = some (.int .i64 0) := (blk_cell BK635.out 0).trans rfl; have hcz59_1 : w55.cell? ⟨gb635, 1, none⟩ = some (.slice none 0 0) := (blk_cell BK635.out 1).trans rfl; have hcz59_2 : w55.cell? ⟨gb635, 2, none⟩ = some (.slice none 0 0) := (blk_cell BK635.out 2).trans rfl; have hcz59_3 : w55.cell? ⟨gb635, 3, none⟩ = some (.slice none 0 0) := (blk_cell BK635.out 3).trans rfl; have hfz59_0 := blk_frozen BK635.out 0; have hfz59_1 := blk_frozen BK635.out 1; have hfz59_2 := blk_frozen BK635.out 2; have hfz59_3 := blk_frozen BK635.out 3; obtain ⟨Ao60, co60, eo60⟩ := Kd.R_slice HO628.out; subst eo60; obtain ⟨Ao61, co61, eo61⟩ := Kd.R_slice HO631.out; subst eo61; obtain ⟨Ao62, co62, eo62⟩ := Kd.R_slice HO634.out; subst eo62; have hcz63_0 : w55.cell? ⟨gb624, 0, none⟩ = some (.int .i64 t614) := (blk_cell BK624.out 0).trans rfl; have hcz63_1 : w55.cell? ⟨gb624, 1, none⟩ = some (.slice Ao50 t615.length co50) := (blk_cell BK624.out 1).trans rfl; have hcz63_2 : w55.cell? ⟨gb624, 2, none⟩ = some (.slice Ao51 t618.length co51) := (blk_cell BK624.out 2).trans rfl; have hcz63_3 : w55.cell? ⟨gb624, 3, none⟩ = some (.slice Ao52 t621.length co52) := (blk_cell BK624.out 3).trans rfl; have hfz63_0 := blk_frozen BK624.out 0; have hfz63_1 := blk_frozen BK624.out 1; have hfz63_2 := blk_frozen BK624.out 2; have hfz63_3 := blk_frozen BK624.out 3) | ((with_reducible refine gate_callee (f := 18) rfl ?_); refine goesL_ (some 41) rfl rfl Try.func18 (by kernel_rfl) rfl #[.agg #[.int .i64 t614, .slice Ao50 t615.length co50, .slice Ao51 t618.length co51, .slice Ao52 t621.length co52], .agg #[.int .i64 t625, .slice Ao60 t626.length co60, .slice Ao61 t629.length co61, .slice Ao62 t632.length co62], .int .i64 a2] rfl (by (try simp only [List.map_toArray, List.map_cons, List.map_nil]); first | done | rfl | (simp only [List.length_drop, List.length_take]; rfl)) ?_; (with_reducible refine (impl_PartsOfGrade.calls k t614 _ _ t615 _ _ t618 _ _ t621 t625 _ _ t626 _ _ t629 _ _ t632 a2 t636 t637 _ ?side1 ?side2 ?side3 ?side4 ?side5 ?side6 ?side7 ?side8 ?side9 ?side10 ?side11 ?side12 A25.out).mono ?_); (case side1 => refine (Kd.R_reads' (e := 3) (base := w.heap.size) (ok := fun k_ => ((((((some k_ ≠ (.slice Ao51 t618.length co51 : Value).ownBlock ∧ some k_ ≠ (.slice Ao37 t593.length co37 : Value).ownBlock) ∧ some k_ ≠ (.slice Ao38 t596.length co38 : Value).ownBlock) ∧ some k_ ≠ (.slice Ao40 t603.length co40 : Value).ownBlock) ∧ some k_ ≠ (.slice Ao41 t606.length co41 : Value).ownBlock) ∧ some k_ ≠ (.slice Ao60 t626.length co60 : Value).ownBlock) ∧ some k_ ≠ (.slice Ao61 t629.length co61 : Value).ownBlock)) (n := t615.length) (c := co50) ?_).2.2; exact (by (with_reducible repeat (first | apply Kd.R_alloc | apply Kd.R_drewN | apply Kd.R_drew)); exact (Kd.R_mono (Kd.R_far (p := ⟨gb635, 3, none⟩) (Kd.R_far (p := ⟨gb635, 2, none⟩) (Kd.R_far (p := ⟨gb635, 1, none⟩) (Kd.R_far (p := ⟨gb635, 0, none⟩) (Kd.R_types HO617.out BK635.out (by decide)) (fun _ hk => hk.2) (.int .i64 t625)) (fun _ hk => hk.2) (.slice Ao60 t626.length co60)) (fun _ hk => hk.2) (.slice Ao61 t629.length co61)) (fun _ hk => hk.2) (.slice Ao62 t632.length co62)) (fun _ h_ => h_.1)))); (case side2 => exact (Kd.R_reads' HO617.out).2.1); (case side3 => refine (Kd.R_reads' (e := 3) (base := w.heap.size) (ok := fun k_ => ((((((some k_ ≠ (.slice Ao50 t615.length co50 : Value).ownBlock ∧ some k_ ≠ (.slice Ao37 t593.length co37 : Value).ownBlock) ∧ some k_ ≠ (.slice Ao38 t596.length co38 : Value).ownBlock) ∧ some k_ ≠ (.slice Ao40 t603.length co40 : Value).ownBlock) ∧ some k_ ≠ (.slice Ao41 t606.length co41 : Value).ownBlock) ∧ some k_ ≠ (.slice Ao60 t626.length co60 : Value).ownBlock) ∧ some k_ ≠ (.slice Ao61 t629.length co61 : Value).ownBlock)) (n := t618.length) (c := co51) ?_).2.2; exact (by (with_reducible repeat (first | apply Kd.R_alloc | apply Kd.R_drewN | apply Kd.R_drew)); exact (Kd.R_mono (Kd.R_far (p := ⟨gb635, 3, none⟩) (Kd.R_far (p := ⟨gb635, 2, none⟩) (Kd.R_far (p := ⟨gb635, 1, none⟩) (Kd.R_far (p := ⟨gb635, 0, none⟩) (Kd.R_types HO620.out BK635.out (by decide)) (fun _ hk => hk.2) (.int .i64 t625)) (fun _ hk => hk.2) (.slice Ao60 t626.length co60)) (fun _ hk => hk.2) (.slice Ao61 t629.length co61)) (fun _ hk => hk.2) (.slice Ao62 t632.length co62)) (fun _ h_ => h_.1)))); (case side4 => exact (Kd.R_reads' HO620.out).2.1); (case side5 => refine (Kd.R_reads' (e := 4) (base := w.heap.size) (ok := fun k_ => (((True ∧ some k_ ≠ (.slice Ao39 t599.length co39 : Value).ownBlock) ∧ some k_ ≠ (.slice Ao42 t609.length co42 : Value).ownBlock) ∧ some k_ ≠ (.slice Ao62 t632.length co62 : Value).ownBlock)) (n := t621.length) (c := co52) ?_).2.2; exact (by (with_reducible repeat (first | apply Kd.R_alloc | apply Kd.R_drewN | apply Kd.R_drew)); exact (Kd.R_mono (Kd.R_far (p := ⟨gb635, 3, none⟩) (Kd.R_far (p := ⟨gb635, 2, none⟩) (Kd.R_far (p := ⟨gb635, 1, none⟩) (Kd.R_far (p := ⟨gb635, 0, none⟩) (Kd.R_types HO623.out BK635.out (by decide)) (fun _ hk => hk.2) (.int .i64 t625)) (fun _ hk => hk.2) (.slice Ao60 t626.length co60)) (fun _ hk => hk.2) (.slice Ao61 t629.length co61)) (fun _ hk => hk.2) (.slice Ao62 t632.length co62)) (fun _ h_ => h_.1)))); (case side6 => exact (Kd.R_reads' HO623.out).2.1); (case side7 => refine (Kd.R_reads' (e := 3) (base := w.heap.size) (ok := fun k_ => ((((((some k_ ≠ (.slice Ao61 t629.length co61 : Value).ownBlock ∧ some k_ ≠ (.slice Ao37 t593.length co37 : Value).ownBlock) ∧ some k_ ≠ (.slice Ao38 t596.length co38 : Value).ownBlock) ∧ some k_ ≠ (.slice Ao40 t603.length co40 : Value).ownBlock) ∧ some k_ ≠ (.slice Ao41 t606.length co41 : Value).ownBlock) ∧ some k_ ≠ (.slice Ao50 t615.length co50 : Value).ownBlock) ∧ some k_ ≠ (.slice Ao51 t618.length co51 : Value).ownBlock)) (n := t626.length) (c := co60) ?_).2.2; exact (by (with_reducible repeat (first | apply Kd.R_alloc | apply Kd.R_drewN | apply Kd.R_drew)); exact (Kd.R_mono (Kd.R_far (p := ⟨gb635, 3, none⟩) (Kd.R_far (p := ⟨gb635, 2, none⟩) (Kd.R_far (p := ⟨gb635, 1, none⟩) (Kd.R_far (p := ⟨gb635, 0, none⟩) (Kd.R_types HO628.out BK635.out (by decide)) (fun _ hk => hk.2) (.int .i64 t625)) (fun _ hk => hk.2) (.slice Ao60 t626.length co60)) (fun _ hk => hk.2) (.slice Ao61 t629.length co61)) (fun _ hk => hk.2) (.slice Ao62 t632.length co62)) (fun _ h_ => h_.1)))); (case side8 => exact (Kd.R_reads' HO628.out).2.1); (case side9 => refine (Kd.R_reads' (e := 3) (base := w.heap.size) (ok := fun k_ => ((((((some k_ ≠ (.slice Ao60 t626.length co60 : Value).ownBlock ∧ some k_ ≠ (.slice Ao37 t593.length co37 : Value).ownBlock) ∧ some k_ ≠ (.slice Ao38 t596.length co38 : Value).ownBlock) ∧ some k_ ≠ (.slice Ao40 t603.length co40 : Value).ownBlock) ∧ some k_ ≠ (.slice Ao41 t606.length co41 : Value).ownBlock) ∧ some k_ ≠ (.slice Ao50 t615.length co50 : Value).ownBlock) ∧ some k_ ≠ (.slice Ao51 t618.length co51 : Value).ownBlock)) (n := t629.length) (c := co61) ?_).2.2; exact (by (with_reducible repeat (first | apply Kd.R_alloc | apply Kd.R_drewN | apply Kd.R_drew)); exact (Kd.R_mono (Kd.R_far (p := ⟨gb635, 3, none⟩) (Kd.R_far (p := ⟨gb635, 2, none⟩) (Kd.R_far (p := ⟨gb635, 1, none⟩) (Kd.R_far (p := ⟨gb635, 0, none⟩) (Kd.R_types HO631.out BK635.out (by decide)) (fun _ hk => hk.2) (.int .i64 t625)) (fun _ hk => hk.2) (.slice Ao60 t626.length co60)) (fun _ hk => hk.2) (.slice Ao61 t629.length co61)) (fun _ hk => hk.2) (.slice Ao62 t632.length co62)) (fun _ h_ => h_.1)))); (case side10 => exact (Kd.R_reads' HO631.out).2.1); (case side11 => refine (Kd.R_reads' (e := 4) (base := w.heap.size) (ok := fun k_ => (((True ∧ some k_ ≠ (.slice Ao39 t599.length co39 : Value).ownBlock) ∧ some k_ ≠ (.slice Ao42 t609.length co42 : Value).ownBlock) ∧ some k_ ≠ (.slice Ao52 t621.length co52 : Value).ownBlock)) (n := t632.length) (c := co62) ?_).2.2; exact (by (with_reducible repeat (first | apply Kd.R_alloc | apply Kd.R_drewN | apply Kd.R_drew)); exact (Kd.R_mono (Kd.R_far (p := ⟨gb635, 3, none⟩) (Kd.R_far (p := ⟨gb635, 2, none⟩) (Kd.R_far (p := ⟨gb635, 1, none⟩) (Kd.R_far (p := ⟨gb635, 0, none⟩) (Kd.R_types HO634.out BK635.out (by decide)) (fun _ hk => hk.2) (.int .i64 t625)) (fun _ hk => hk.2) (.slice Ao60 t626.length co60)) (fun _ hk => hk.2) (.slice Ao61 t629.length co61)) (fun _ hk => hk.2) (.slice Ao62 t632.length co62)) (fun _ h_ => h_.1)))); (case side12 => exact (Kd.R_reads' HO634.out).2.1); rintro e w64 ⟨rfl, hb⟩; refine ⟨_, rfl, ?_⟩; replace HO595 := sd_ (Kd.R_below (by (with_reducible repeat (first | apply Kd.R_alloc | apply Kd.R_drewN | apply Kd.R_drew)); exact (Kd.R_mono (Kd.R_far (p := ⟨gb635, 3, none⟩) (Kd.R_far (p := ⟨gb635, 2, none⟩) (Kd.R_far (p := ⟨gb635, 1, none⟩) (Kd.R_far (p := ⟨gb635, 0, none⟩) (Kd.R_types HO595.out BK635.out (by decide)) (fun _ hk => hk.2) (.int .i64 t625)) (fun _ hk => hk.2) (.slice Ao60 t626.length co60)) (fun _ hk => hk.2) (.slice Ao61 t629.length co61)) (fun _ hk => hk.2) (.slice Ao62 t632.length co62)) (fun _ h_ => h_.1))) hb); replace HO598 := sd_ (Kd.R_below (by (with_reducible repeat (first | apply Kd.R_alloc | apply Kd.R_drewN | apply Kd.R_drew)); exact (Kd.R_mono (Kd.R_far (p := ⟨gb635, 3, none⟩) (Kd.R_far (p := ⟨gb635, 2, none⟩) (Kd.R_far (p := ⟨gb635, 1, none⟩) (Kd.R_far (p := ⟨gb635, 0, none⟩) (Kd.R_types HO598.out BK635.out (by decide)) (fun _ hk => hk.2) (.int .i64 t625)) (fun _ hk => hk.2) (.slice Ao60 t626.length co60)) (fun _ hk => hk.2) (.slice Ao61 t629.length co61)) (fun _ hk => hk.2) (.slice Ao62 t632.length co62)) (fun _ h_ => h_.1))) hb); replace HO601 := sd_ (Kd.R_below (by (with_reducible repeat (first | apply Kd.R_alloc | apply Kd.R_drewN | apply Kd.R_drew)); exact (Kd.R_mono (Kd.R_far (p := ⟨gb635, 3, none⟩) (Kd.R_far (p := ⟨gb635, 2, none⟩) (Kd.R_far (p := ⟨gb635, 1, none⟩) (Kd.R_far (p := ⟨gb635, 0, none⟩) (Kd.R_types HO601.out BK635.out (by decide)) (fun _ hk => hk.2) (.int .i64 t625)) (fun _ hk => hk.2) (.slice Ao60 t626.length co60)) (fun _ hk => hk.2) (.slice Ao61 t629.length co61)) (fun _ hk => hk.2) (.slice Ao62 t632.length co62)) (fun _ h_ => h_.1))) hb); replace HO605 := sd_ (Kd.R_below (by (with_reducible repeat (first | apply Kd.R_alloc | apply Kd.R_drewN | apply Kd.R_drew)); exact (Kd.R_mono (Kd.R_far (p := ⟨gb635, 3, none⟩) (Kd.R_far (p := ⟨gb635, 2, none⟩) (Kd.R_far (p := ⟨gb635, 1, none⟩) (Kd.R_far (p := ⟨gb635, 0, none⟩) (Kd.R_types HO605.out BK635.out (by decide)) (fun _ hk => hk.2) (.int .i64 t625)) (fun _ hk => hk.2) (.slice Ao60 t626.length co60)) (fun _ hk => hk.2) (.slice Ao61 t629.length co61)) (fun _ hk => hk.2) (.slice Ao62 t632.length co62)) (fun _ h_ => h_.1))) hb); replace HO608 := sd_ (Kd.R_below (by (with_reducible repeat (first | apply Kd.R_alloc | apply Kd.R_drewN | apply Kd.R_drew)); exact (Kd.R_mono (Kd.R_far (p := ⟨gb635, 3, none⟩) (Kd.R_far (p := ⟨gb635, 2, none⟩) (Kd.R_far (p := ⟨gb635, 1, none⟩) (Kd.R_far (p := ⟨gb635, 0, none⟩) (Kd.R_types HO608.out BK635.out (by decide)) (fun _ hk => hk.2) (.int .i64 t625)) (fun _ hk => hk.2) (.slice Ao60 t626.length co60)) (fun _ hk => hk.2) (.slice Ao61 t629.length co61)) (fun _ hk => hk.2) (.slice Ao62 t632.length co62)) (fun _ h_ => h_.1))) hb); replace HO611 := sd_ (Kd.R_below (by (with_reducible repeat (first | apply Kd.R_alloc | apply Kd.R_drewN | apply Kd.R_drew)); exact (Kd.R_mono (Kd.R_far (p := ⟨gb635, 3, none⟩) (Kd.R_far (p := ⟨gb635, 2, none⟩) (Kd.R_far (p := ⟨gb635, 1, none⟩) (Kd.R_far (p := ⟨gb635, 0, none⟩) (Kd.R_types HO611.out BK635.out (by decide)) (fun _ hk => hk.2) (.int .i64 t625)) (fun _ hk => hk.2) (.slice Ao60 t626.length co60)) (fun _ hk => hk.2) (.slice Ao61 t629.length co61)) (fun _ hk => hk.2) (.slice Ao62 t632.length co62)) (fun _ h_ => h_.1))) hb); replace HO617 := sd_ (Kd.R_below (by (with_reducible repeat (first | apply Kd.R_alloc | apply Kd.R_drewN | apply Kd.R_drew)); exact (Kd.R_mono (Kd.R_far (p := ⟨gb635, 3, none⟩) (Kd.R_far (p := ⟨gb635, 2, none⟩) (Kd.R_far (p := ⟨gb635, 1, none⟩) (Kd.R_far (p := ⟨gb635, 0, none⟩) (Kd.R_types HO617.out BK635.out (by decide)) (fun _ hk => hk.2) (.int .i64 t625)) (fun _ hk => hk.2) (.slice Ao60 t626.length co60)) (fun _ hk => hk.2) (.slice Ao61 t629.length co61)) (fun _ hk => hk.2) (.slice Ao62 t632.length co62)) (fun _ h_ => h_.1))) hb); replace HO620 := sd_ (Kd.R_below (by (with_reducible repeat (first | apply Kd.R_alloc | apply Kd.R_drewN | apply Kd.R_drew)); exact (Kd.R_mono (Kd.R_far (p := ⟨gb635, 3, none⟩) (Kd.R_far (p := ⟨gb635, 2, none⟩) (Kd.R_far (p := ⟨gb635, 1, none⟩) (Kd.R_far (p := ⟨gb635, 0, none⟩) (Kd.R_types HO620.out BK635.out (by decide)) (fun _ hk => hk.2) (.int .i64 t625)) (fun _ hk => hk.2) (.slice Ao60 t626.length co60)) (fun _ hk => hk.2) (.slice Ao61 t629.length co61)) (fun _ hk => hk.2) (.slice Ao62 t632.length co62)) (fun _ h_ => h_.1))) hb); replace HO623 := sd_ (Kd.R_below (by (with_reducible repeat (first | apply Kd.R_alloc | apply Kd.R_drewN | apply Kd.R_drew)); exact (Kd.R_mono (Kd.R_far (p := ⟨gb635, 3, none⟩) (Kd.R_far (p := ⟨gb635, 2, none⟩) (Kd.R_far (p := ⟨gb635, 1, none⟩) (Kd.R_far (p := ⟨gb635, 0, none⟩) (Kd.R_types HO623.out BK635.out (by decide)) (fun _ hk => hk.2) (.int .i64 t625)) (fun _ hk => hk.2) (.slice Ao60 t626.length co60)) (fun _ hk => hk.2) (.slice Ao61 t629.length co61)) (fun _ hk => hk.2) (.slice Ao62 t632.length co62)) (fun _ h_ => h_.1))) hb); replace HO628 := sd_ (Kd.R_below (by (with_reducible repeat (first | apply Kd.R_alloc | apply Kd.R_drewN | apply Kd.R_drew)); exact (Kd.R_mono (Kd.R_far (p := ⟨gb635, 3, none⟩) (Kd.R_far (p := ⟨gb635, 2, none⟩) (Kd.R_far (p := ⟨gb635, 1, none⟩) (Kd.R_far (p := ⟨gb635, 0, none⟩) (Kd.R_types HO628.out BK635.out (by decide)) (fun _ hk => hk.2) (.int .i64 t625)) (fun _ hk => hk.2) (.slice Ao60 t626.length co60)) (fun _ hk => hk.2) (.slice Ao61 t629.length co61)) (fun _ hk => hk.2) (.slice Ao62 t632.length co62)) (fun _ h_ => h_.1))) hb); replace HO631 := sd_ (Kd.R_below (by (with_reducible repeat (first | apply Kd.R_alloc | apply Kd.R_drewN | apply Kd.R_drew)); exact (Kd.R_mono (Kd.R_far (p := ⟨gb635, 3, none⟩) (Kd.R_far (p := ⟨gb635, 2, none⟩) (Kd.R_far (p := ⟨gb635, 1, none⟩) (Kd.R_far (p := ⟨gb635, 0, none⟩) (Kd.R_types HO631.out BK635.out (by decide)) (fun _ hk => hk.2) (.int .i64 t625)) (fun _ hk => hk.2) (.slice Ao60 t626.length co60)) (fun _ hk => hk.2) (.slice Ao61 t629.length co61)) (fun _ hk => hk.2) (.slice Ao62 t632.length co62)) (fun _ h_ => h_.1))) hb); replace HO634 := sd_ (Kd.R_below (by (with_reducible repeat (first | apply Kd.R_alloc | apply Kd.R_drewN | apply Kd.R_drew)); exact (Kd.R_mono (Kd.R_far (p := ⟨gb635, 3, none⟩) (Kd.R_far (p := ⟨gb635, 2, none⟩) (Kd.R_far (p := ⟨gb635, 1, none⟩) (Kd.R_far (p := ⟨gb635, 0, none⟩) (Kd.R_types HO634.out BK635.out (by decide)) (fun _ hk => hk.2) (.int .i64 t625)) (fun _ hk => hk.2) (.slice Ao60 t626.length co60)) (fun _ hk => hk.2) (.slice Ao61 t629.length co61)) (fun _ hk => hk.2) (.slice Ao62 t632.length co62)) (fun _ h_ => h_.1))) hb); replace BK588 := sd_ (blk_below (g := gb588) (o := .cells #[.int .i64 a0_0, .slice A0_1 l0_1.length c0_1, .slice A0_2 l0_2.length c0_2, .slice A0_3 l0_3.length c0_3] 37 (0, 0)) (by (with_reducible repeat (first | refine blk_drewN ?_ _ | refine blk_drew ?_ | refine blk_alloc ?_ _)); refine blk_far ?_ NB588_635.out _; (with_reducible repeat (first | refine blk_drewN ?_ _ | refine blk_drew ?_ | refine blk_alloc ?_ _)); refine blk_far ?_ NB588_635.out _; (with_reducible repeat (first | refine blk_drewN ?_ _ | refine blk_drew ?_ | refine blk_alloc ?_ _)); refine blk_far ?_ NB588_635.out _; (with_reducible repeat (first | refine blk_drewN ?_ _ | refine blk_drew ?_ | refine blk_alloc ?_ _)); refine blk_far ?_ NB588_635.out _; (with_reducible repeat (first | refine blk_drewN ?_ _ | refine blk_drew ?_ | refine blk_alloc ?_ _)); exact BK588.out) hb); replace BK589 := sd_ (blk_below (g := gb589) (o := .cells #[.int .i64 a1_0, .slice A1_1 l1_1.length c1_1, .slice A1_2 l1_2.length c1_2, .slice A1_3 l1_3.length c1_3] 37 (0, 0)) (by (with_reducible repeat (first | refine blk_drewN ?_ _ | refine blk_drew ?_ | refine blk_alloc ?_ _)); refine blk_far ?_ NB589_635.out _; (with_reducible repeat (first | refine blk_drewN ?_ _ | refine blk_drew ?_ | refine blk_alloc ?_ _)); refine blk_far ?_ NB589_635.out _; (with_reducible repeat (first | refine blk_drewN ?_ _ | refine blk_drew ?_ | refine blk_alloc ?_ _)); refine blk_far ?_ NB589_635.out _; (with_reducible repeat (first | refine blk_drewN ?_ _ | refine blk_drew ?_ | refine blk_alloc ?_ _)); refine blk_far ?_ NB589_635.out _; (with_reducible repeat (first | refine blk_drewN ?_ _ | refine blk_drew ?_ | refine blk_alloc ?_ _)); exact BK589.out) hb); replace BK624 := sd_ (blk_below (g := gb624) (o := .cells #[.int .i64 t614, .slice Ao50 t615.length co50, .slice Ao51 t618.length co51, .slice Ao52 t621.length co52] 27 (0, 0)) (by (with_reducible repeat (first | refine blk_drewN ?_ _ | refine blk_drew ?_ | refine blk_alloc ?_ _)); refine blk_far ?_ NB624_635.out _; (with_reducible repeat (first | refine blk_drewN ?_ _ | refine blk_drew ?_ | refine blk_alloc ?_ _)); refine blk_far ?_ NB624_635.out _; (with_reducible repeat (first | refine blk_drewN ?_ _ | refine blk_drew ?_ | refine blk_alloc ?_ _)); refine blk_far ?_ NB624_635.out _; (with_reducible repeat (first | refine blk_drewN ?_ _ | refine blk_drew ?_ | refine blk_alloc ?_ _)); refine blk_far ?_ NB624_635.out _; (with_reducible repeat (first | refine blk_drewN ?_ _ | refine blk_drew ?_ | refine blk_alloc ?_ _)); exact BK624.out) hb); replace BK635 := sd_ (blk_below (g := gb635) (o := .cells #[.int .i64 t625, .slice Ao60 t626.length co60, .slice Ao61 t629.length co61, .slice Ao62 t632.length co62] 27 (0, 0)) (by (with_reducible repeat (first | refine blk_drewN ?_ _ | refine blk_drew ?_ | refine blk_alloc ?_ _)); refine blk_put (cs := #[.int .i64 t625, .slice Ao60 t626.length co60, .slice Ao61 t629.length co61, .slice none 0 0]) ?_ 3 _ rfl; (with_reducible repeat (first | refine blk_drewN ?_ _ | refine blk_drew ?_ | refine blk_alloc ?_ _)); refine blk_put (cs := #[.int .i64 t625, .slice Ao60 t626.length co60, .slice none 0 0, .slice none 0 0]) ?_ 2 _ rfl; (with_reducible repeat (first | refine blk_drewN ?_ _ | refine blk_drew ?_ | refine blk_alloc ?_ _)); refine blk_put (cs := #[.int .i64 t625, .slice none 0 0, .slice none 0 0, .slice none 0 0]) ?_ 1 _ rfl; (with_reducible repeat (first | refine blk_drewN ?_ _ | refine blk_drew ?_ | refine blk_alloc ?_ _)); refine blk_put (cs := #[.int .i64 0, .slice none 0 0, .slice none 0 0, .slice none 0 0]) ?_ 0 _ rfl; (with_reducible repeat (first | refine blk_drewN ?_ _ | refine blk_drew ?_ | refine blk_alloc ?_ _)); exact BK635.out) hb); replace HB := sd_ (below_step (bw4_ HB.out GE588.out GE589.out GE624.out GE635.out) hb); (try clear hb); (try clear hb2); (try clear hk); (try clear hi)))
   (try simp only [Act.put, List.setIfInBounds_toArray, List.set_cons_zero, List.set_cons_succ])
   go_cut [51] (fun v51 wc => ∃ (kq : Nat) (x51_25 : Bool), v51 = .bool x51_25 ∧ Aside0 (laws_FnExactPartsOfGrade.j0 kq x51_25 a0_0 l0_1 l0_2 l0_3 a1_0 l1_1 l1_2 l1_3 t614 t615 t618 t621 t625 t626 t629 t632 = some r) ∧ Aside0 (kq ≤ k) ∧ Aside0 (Kd.R (Kd.int .i64) 3 wc w.heap.size (fun k_ => some k_ ≠ ((.slice Ao51 t618.length co51) : Value).ownBlock ∧ some k_ ≠ ((.slice Ao60 t626.length co60) : Value).ownBlock ∧ some k_ ≠ ((.slice Ao61 t629.length co61) : Value).ownBlock) (.slice Ao50 t615.length co50) t615) ∧ Aside0 (Kd.R (Kd.int .i64) 3 wc w.heap.size (fun k_ => some k_ ≠ ((.slice Ao50 t615.length co50) : Value).ownBlock ∧ some k_ ≠ ((.slice Ao60 t626.length co60) : Value).ownBlock ∧ some k_ ≠ ((.slice Ao61 t629.length co61) : Value).ownBlock) (.slice Ao51 t618.length co51) t618) ∧ Aside0 (Kd.R Kd.bool 4 wc w.heap.size (fun k_ => some k_ ≠ ((.slice Ao62 t632.length co62) : Value).ownBlock) (.slice Ao52 t621.length co52) t621) ∧ Aside0 (Kd.R (Kd.int .i64) 3 wc w.heap.size (fun k_ => some k_ ≠ ((.slice Ao50 t615.length co50) : Value).ownBlock ∧ some k_ ≠ ((.slice Ao51 t618.length co51) : Value).ownBlock ∧ some k_ ≠ ((.slice Ao61 t629.length co61) : Value).ownBlock) (.slice Ao60 t626.length co60) t626) ∧ Aside0 (Kd.R (Kd.int .i64) 3 wc w.heap.size (fun k_ => some k_ ≠ ((.slice Ao50 t615.length co50) : Value).ownBlock ∧ some k_ ≠ ((.slice Ao51 t618.length co51) : Value).ownBlock ∧ some k_ ≠ ((.slice Ao60 t626.length co60) : Value).ownBlock) (.slice Ao61 t629.length co61) t629) ∧ Aside0 (Kd.R Kd.bool 4 wc w.heap.size (fun k_ => some k_ ≠ ((.slice Ao52 t621.length co52) : Value).ownBlock) (.slice Ao62 t632.length co62) t632) ∧ Aside0 (wc.heap[gb588]? = some (.cells #[.int .i64 a0_0, (.slice A0_1 l0_1.length c0_1), (.slice A0_2 l0_2.length c0_2), (.slice A0_3 l0_3.length c0_3)] 37 (0, 0))) ∧ Aside0 (wc.heap[gb589]? = some (.cells #[.int .i64 a1_0, (.slice A1_1 l1_1.length c1_1), (.slice A1_2 l1_2.length c1_2), (.slice A1_3 l1_3.length c1_3)] 37 (0, 0))) ∧ Aside0 (wc.heap[gb624]? = some (.cells #[.int .i64 t614, (.slice Ao50 t615.length co50), (.slice Ao51 t618.length co51), (.slice Ao52 t621.length co52)] 27 (0, 0))) ∧ Aside0 (wc.heap[gb635]? = some (.cells #[.int .i64 t625, (.slice Ao60 t626.length co60), (.slice Ao61 t629.length co61), (.slice Ao62 t632.length co62)] 27 (0, 0))) ∧ Aside0 (Below w.heap.size w wc))
   case first =>
    have H := HC26.out
    clear HC26
    by_cases c65 : t636 = t612
    ·rw [if_pos c65] at H
     have c65b0 : (t636 == t612) = true := beq_iff_eq.mpr c65
     have c65b1 : (t636 != t612) = false := bne_eq_false_iff_eq.mpr c65
     clear c65
     (first | rw [c65b0] | (simp only [i64_w, i32_w]; rw [c65b0]) | skip)
     have H' := sd_ H
     clear H
     go_wp2
     go_meet
     case rel => exact ⟨_, ((t637 != t613)), (by first | rfl | (simp; done) | (simp [*]; done)), H', ⟨by first | omega | exact Nat.le_refl _⟩, ⟨by (with_reducible repeat (first | apply Kd.R_alloc | apply Kd.R_drewN | apply Kd.R_drew)); exact Kd.R_mono HO617.out (fun _ hk => ⟨hk.1.1.1.1.1.1, ⟨hk.1.2, hk.2⟩⟩)⟩, ⟨by (with_reducible repeat (first | apply Kd.R_alloc | apply Kd.R_drewN | apply Kd.R_drew)); exact Kd.R_mono HO620.out (fun _ hk => ⟨hk.1.1.1.1.1.1, ⟨hk.1.2, hk.2⟩⟩)⟩, ⟨by (with_reducible repeat (first | apply Kd.R_alloc | apply Kd.R_drewN | apply Kd.R_drew)); exact Kd.R_mono HO623.out (fun _ hk => hk.2)⟩, ⟨by (with_reducible repeat (first | apply Kd.R_alloc | apply Kd.R_drewN | apply Kd.R_drew)); exact Kd.R_mono HO628.out (fun _ hk => ⟨hk.1.2, ⟨hk.2, hk.1.1.1.1.1.1⟩⟩)⟩, ⟨by (with_reducible repeat (first | apply Kd.R_alloc | apply Kd.R_drewN | apply Kd.R_drew)); exact Kd.R_mono HO631.out (fun _ hk => ⟨hk.1.2, ⟨hk.2, hk.1.1.1.1.1.1⟩⟩)⟩, ⟨by (with_reducible repeat (first | apply Kd.R_alloc | apply Kd.R_drewN | apply Kd.R_drew)); exact Kd.R_mono HO634.out (fun _ hk => hk.2)⟩, ⟨by (with_reducible repeat (first | refine blk_drewN ?_ _ | refine blk_drew ?_ | refine blk_alloc ?_ _)); exact BK588.out⟩, ⟨by (with_reducible repeat (first | refine blk_drewN ?_ _ | refine blk_drew ?_ | refine blk_alloc ?_ _)); exact BK589.out⟩, ⟨by (with_reducible repeat (first | refine blk_drewN ?_ _ | refine blk_drew ?_ | refine blk_alloc ?_ _)); exact BK624.out⟩, ⟨by (with_reducible repeat (first | refine blk_drewN ?_ _ | refine blk_drew ?_ | refine blk_alloc ?_ _)); exact BK635.out⟩, ⟨bw4_ HB.out GE588.out GE589.out GE624.out GE635.out⟩⟩
    ·rw [if_neg c65] at H
     have c65b0 : (t636 == t612) = false := beq_eq_false_iff_ne.mpr c65
     have c65b1 : (t636 != t612) = true := bne_iff_ne.mpr c65
     (first | rw [c65b0] | (simp only [i64_w, i32_w]; rw [c65b0]) | skip)
     have H' := sd_ H
     clear H
     go_wp2
     go_meet
     case rel => exact ⟨_, (true), (by first | rfl | (simp; done) | (simp [*]; done)), H', ⟨by first | omega | exact Nat.le_refl _⟩, ⟨by (with_reducible repeat (first | apply Kd.R_alloc | apply Kd.R_drewN | apply Kd.R_drew)); exact Kd.R_mono HO617.out (fun _ hk => ⟨hk.1.1.1.1.1.1, ⟨hk.1.2, hk.2⟩⟩)⟩, ⟨by (with_reducible repeat (first | apply Kd.R_alloc | apply Kd.R_drewN | apply Kd.R_drew)); exact Kd.R_mono HO620.out (fun _ hk => ⟨hk.1.1.1.1.1.1, ⟨hk.1.2, hk.2⟩⟩)⟩, ⟨by (with_reducible repeat (first | apply Kd.R_alloc | apply Kd.R_drewN | apply Kd.R_drew)); exact Kd.R_mono HO623.out (fun _ hk => hk.2)⟩, ⟨by (with_reducible repeat (first | apply Kd.R_alloc | apply Kd.R_drewN | apply Kd.R_drew)); exact Kd.R_mono HO628.out (fun _ hk => ⟨hk.1.2, ⟨hk.2, hk.1.1.1.1.1.1⟩⟩)⟩, ⟨by (with_reducible repeat (first | apply Kd.R_alloc | apply Kd.R_drewN | apply Kd.R_drew)); exact Kd.R_mono HO631.out (fun _ hk => ⟨hk.1.2, ⟨hk.2, hk.1.1.1.1.1.1⟩⟩)⟩, ⟨by (with_reducible repeat (first | apply Kd.R_alloc | apply Kd.R_drewN | apply Kd.R_drew)); exact Kd.R_mono HO634.out (fun _ hk => hk.2)⟩, ⟨by (with_reducible repeat (first | refine blk_drewN ?_ _ | refine blk_drew ?_ | refine blk_alloc ?_ _)); exact BK588.out⟩, ⟨by (with_reducible repeat (first | refine blk_drewN ?_ _ | refine blk_drew ?_ | refine blk_alloc ?_ _)); exact BK589.out⟩, ⟨by (with_reducible repeat (first | refine blk_drewN ?_ _ | refine blk_drew ?_ | refine blk_alloc ?_ _)); exact BK624.out⟩, ⟨by (with_reducible repeat (first | refine blk_drewN ?_ _ | refine blk_drew ?_ | refine blk_alloc ?_ _)); exact BK635.out⟩, ⟨bw4_ HB.out GE588.out GE589.out GE624.out GE635.out⟩⟩
   case rest =>
    clear HC26
    try clear c1
    try clear c2
    try clear p2
    try clear c4
    try clear c5
    try clear c5b0
    try clear c12
    try clear c12b0
    try clear c18
    try clear c22
    try clear c24
    try clear c26
    try clear c29
    try clear c47
    try clear c48
    try clear c56
    try clear c57
    try clear c58
    try clear hcz30_0
    try clear hcz30_1
    try clear hcz30_2
    try clear hcz30_3
    try clear hcz32_0
    try clear hcz32_1
    try clear hcz32_2
    try clear hcz32_3
    try clear hcz44_0
    try clear hcz44_1
    try clear hcz44_2
    try clear hcz44_3
    try clear hcz49_0
    try clear hcz49_1
    try clear hcz49_2
    try clear hcz49_3
    try clear hcz53_0
    try clear hcz53_1
    try clear hcz53_2
    try clear hcz53_3
    try clear hcz59_0
    try clear hcz59_1
    try clear hcz59_2
    try clear hcz59_3
    try clear hcz63_0
    try clear hcz63_1
    try clear hcz63_2
    try clear hcz63_3
    try clear hfz30_0
    try clear hfz30_1
    try clear hfz30_2
    try clear hfz30_3
    try clear hfz32_0
    try clear hfz32_1
    try clear hfz32_2
    try clear hfz32_3
    try clear hfz44_0
    try clear hfz44_1
    try clear hfz44_2
    try clear hfz44_3
    try clear hfz49_0
    try clear hfz49_1
    try clear hfz49_2
    try clear hfz49_3
    try clear hfz53_0
    try clear hfz53_1
    try clear hfz53_2
    try clear hfz53_3
    try clear hfz59_0
    try clear hfz59_1
    try clear hfz59_2
    try clear hfz59_3
    try clear hfz63_0
    try clear hfz63_1
    try clear hfz63_2
    try clear hfz63_3
    obtain ⟨kq, x51_25, rfl, HA, HJ25, HO_625001, HO_625002, HO_625003, HO_636001, HO_636002, HO_636003, BK588, BK589, BK624, BK635, HB⟩ := hcut
    cases kq with
    | zero => exact absurd HA.out (by simp [laws_FnExactPartsOfGrade.j0])
    | succ kj25 =>
     have H := HA.out
     clear HA
     simp only [laws_FnExactPartsOfGrade.j0] at H
     by_cases c66 : x51_25 = true
     ·subst c66
      have H1 : (some false) = some r := by rw [if_pos rfl] at H; exact H
      clear H
      have H := H1
      clear H1
      obtain rfl := Option.some.inj H
      exact absurd hr_ (by decide)
     ·replace c66 := Bool.eq_false_iff.mpr c66
      subst c66
      have H1 : ((laws_toSystem.f kj25 a0_0 l0_1 l0_2 l0_3).bind fun bt638 => ((laws_eqSystem.f kj25 t614 t615 t618 t621 bt638.1 bt638.2.1 bt638.2.2.1 bt638.2.2.2).bind fun t648 => (if t648 = true then ((laws_toSystem.f kj25 a1_0 l1_1 l1_2 l1_3).bind fun bt649 => ((laws_eqSystem.f kj25 t625 t626 t629 t632 bt649.1 bt649.2.1 bt649.2.2.1 bt649.2.2.2).bind fun t659 => (if t659 = true then (some true) else (some false)))) else (some false)))) = some r := by rw [if_neg (show ¬ (false = true) by decide)] at H; exact H
      clear H
      have H := H1
      clear H1
      replace H := Option.bind_eq_some_iff.mp H
      obtain ⟨⟨t638, t639, t642, t645⟩, A670, H⟩ := H
      replace H : ((laws_eqSystem.f kj25 t614 t615 t618 t621 t638 t639 t642 t645).bind fun t648 => (if t648 = true then ((laws_toSystem.f kj25 a1_0 l1_1 l1_2 l1_3).bind fun bt649 => ((laws_eqSystem.f kj25 t625 t626 t629 t632 bt649.1 bt649.2.1 bt649.2.2.1 bt649.2.2.2).bind fun t659 => (if t659 = true then (some true) else (some false)))) else (some false))) = some r := H
      have A67 := sd_ A670
      clear A670
      replace H := Option.bind_eq_some_iff.mp H
      obtain ⟨t648, A680, H⟩ := H
      replace H : (if t648 = true then ((laws_toSystem.f kj25 a1_0 l1_1 l1_2 l1_3).bind fun bt649 => ((laws_eqSystem.f kj25 t625 t626 t629 t632 bt649.1 bt649.2.1 bt649.2.2.1 bt649.2.2.2).bind fun t659 => (if t659 = true then (some true) else (some false)))) else (some false)) = some r := H
      have A68 := sd_ A680
      clear A680
      by_cases c69 : t648 = true
      ·subst c69
       have H1 : ((laws_toSystem.f kj25 a1_0 l1_1 l1_2 l1_3).bind fun bt649 => ((laws_eqSystem.f kj25 t625 t626 t629 t632 bt649.1 bt649.2.1 bt649.2.2.1 bt649.2.2.2).bind fun t659 => (if t659 = true then (some true) else (some false)))) = some r := by rw [if_pos rfl] at H; exact H
       clear H
       have H := H1
       clear H1
       replace H := Option.bind_eq_some_iff.mp H
       obtain ⟨⟨t649, t650, t653, t656⟩, A700, H⟩ := H
       replace H : ((laws_eqSystem.f kj25 t625 t626 t629 t632 t649 t650 t653 t656).bind fun t659 => (if t659 = true then (some true) else (some false))) = some r := H
       have A70 := sd_ A700
       clear A700
       replace H := Option.bind_eq_some_iff.mp H
       obtain ⟨t659, A710, H⟩ := H
       replace H : (if t659 = true then (some true) else (some false)) = some r := H
       have A71 := sd_ A710
       clear A710
       by_cases c72 : t659 = true
       ·subst c72
        have H1 : (some true) = some r := by rw [if_pos rfl] at H; exact H
        clear H
        have H := H1
        clear H1
        obtain rfl := Option.some.inj H
        try go_wp2
        replace HO_625001 := sd_ (Kd.R_drew HO_625001.out)
        replace HO_625002 := sd_ (Kd.R_drew HO_625002.out)
        replace HO_625003 := sd_ (Kd.R_drew HO_625003.out)
        replace HO_636001 := sd_ (Kd.R_drew HO_636001.out)
        replace HO_636002 := sd_ (Kd.R_drew HO_636002.out)
        replace HO_636003 := sd_ (Kd.R_drew HO_636003.out)
        replace BK588 := sd_ (blk_drew BK588.out)
        replace BK589 := sd_ (blk_drew BK589.out)
        replace BK624 := sd_ (blk_drew BK624.out)
        replace BK635 := sd_ (blk_drew BK635.out)
        replace HB := sd_ (below_drew1 HB.out)
        refine start_ (n := 5) (S := fun w' => w'.cell? ⟨gb624, 0, none⟩ = some (.int .i64 t614) ∧ w'.cell? ⟨gb624, 1, none⟩ = some (.slice Ao50 t615.length co50) ∧ w'.cell? ⟨gb624, 2, none⟩ = some (.slice Ao51 t618.length co51) ∧ w'.cell? ⟨gb624, 3, none⟩ = some (.slice Ao52 t621.length co52) ∧ w'.cell? ⟨gb588, 0, none⟩ = some (.int .i64 a0_0) ∧ w'.cell? ⟨gb588, 1, none⟩ = some (.slice A0_1 l0_1.length c0_1) ∧ w'.cell? ⟨gb588, 2, none⟩ = some (.slice A0_2 l0_2.length c0_2) ∧ w'.cell? ⟨gb588, 3, none⟩ = some (.slice A0_3 l0_3.length c0_3)) (ds := []) #[false, false, false, false, false] (by kernel_rfl) rfl rfl ⟨(blk_cell BK624.out 0).trans rfl, (blk_cell BK624.out 1).trans rfl, (blk_cell BK624.out 2).trans rfl, (blk_cell BK624.out 3).trans rfl, (blk_cell BK588.out 0).trans rfl, (blk_cell BK588.out 1).trans rfl, (blk_cell BK588.out 2).trans rfl, (blk_cell BK588.out 3).trans rfl⟩ (fun hHeld => ?_)
        generalize wc.drew = w73 at HO_625001 HO_625002 HO_625003 HO_636001 HO_636002 HO_636003 BK588 BK589 BK624 BK635 HB hHeld ⊢
        refine take_ (i := 0) (N := some 52) (v := ?_) (a' := ?_) #[true, false, false, false, false] rfl rfl (by kernel_rfl) (fun _ _ _ h => h) (Or.inl ⟨by rfl, ?_⟩) hHeld ?_ ?_
        rotate_left
        ·rintro w' ⟨s0, s1, s2, s3, s4, s5, s6, s7⟩
         go_simp
         with_reducible rfl
        rotate_left
        ·simp only [Act.put, List.setIfInBounds_toArray, List.set_cons_zero, List.set_cons_succ, i64_w, i32_w]
         rfl
        refine take_ (i := 1) (N := some 53) (v := ?_) (a' := ?_) #[true, true, false, false, false] rfl rfl (by kernel_rfl) (fun _ _ _ h => h) (Or.inl ⟨by rfl, ?_⟩) hHeld ?_ ?_
        rotate_left
        ·rintro w' ⟨s0, s1, s2, s3, s4, s5, s6, s7⟩
         go_simp
         with_reducible rfl
        rotate_left
        ·simp only [Act.put, List.setIfInBounds_toArray, List.set_cons_zero, List.set_cons_succ, i64_w, i32_w]
         rfl
        refine one_ (i := 2) (N := some 54) #[true, true, true, false, false] rfl rfl (by kernel_rfl) (by decide) (fun K hK => ?_)
        refine goes_ Try.func24 (by kernel_rfl) rfl #[.agg #[.int .i64 a0_0, .slice A0_1 l0_1.length c0_1, .slice A0_2 l0_2.length c0_2, .slice A0_3 l0_3.length c0_3]] (by rfl) rfl rfl (by (try simp only [List.map_toArray, List.map_cons, List.map_nil]); first | done | rfl | (simp only [List.length_drop, List.length_take]; rfl)) ?_
        with_reducible refine (laws_toSystem.calls kj25 a0_0 _ _ l0_1 _ _ l0_2 _ _ l0_3 t638 t639 t642 t645 _ ?side1 ?side2 ?side3 ?side4 ?side5 ?side6 A67.out).mono ?_
        (case side1 => exact kc_ HR0_1.out HB.out)
        (case side2 => exact HC0_1.out)
        (case side3 => exact kc_ HR0_2.out HB.out)
        (case side4 => exact HC0_2.out)
        (case side5 => exact kc_ HR0_3.out HB.out)
        (case side6 => exact HC0_3.out)
        rintro e w74 ⟨v640, v643, v646, rfl, ho0, ho1, ho2, hb⟩
        refine ⟨_, rfl, ?_⟩
        have HO641 := sd_ (Kd.R_lower (Kd.R_new' (Kd.R_new' (Kd.R_new' (Kd.R_new' ho0 (Kd.R_lt (ro_ HO_625001.out))) (Kd.R_lt (ro_ HO_625002.out))) (Kd.R_lt (ro_ HO_636001.out))) (Kd.R_lt (ro_ HO_636002.out))) (below_size (bw4_ HB.out GE588.out GE589.out GE624.out GE635.out)))
        have HO644 := sd_ (Kd.R_lower (Kd.R_new' (Kd.R_new' (Kd.R_new' (Kd.R_new' ho1 (Kd.R_lt (ro_ HO_625001.out))) (Kd.R_lt (ro_ HO_625002.out))) (Kd.R_lt (ro_ HO_636001.out))) (Kd.R_lt (ro_ HO_636002.out))) (below_size (bw4_ HB.out GE588.out GE589.out GE624.out GE635.out)))
        replace HO_625001 := sd_ (Kd.R_mono (Kd.R_told (Kd.R_told (Kd.R_old (ro_ HO_625001.out) hb) (Kd.R_base ho0)) (Kd.R_base ho1)) (fun _ h_ => h_.1))
        replace HO_625002 := sd_ (Kd.R_mono (Kd.R_told (Kd.R_told (Kd.R_old (ro_ HO_625002.out) hb) (Kd.R_base ho0)) (Kd.R_base ho1)) (fun _ h_ => h_.1))
        replace HO_636001 := sd_ (Kd.R_mono (Kd.R_told (Kd.R_told (Kd.R_old (ro_ HO_636001.out) hb) (Kd.R_base ho0)) (Kd.R_base ho1)) (fun _ h_ => h_.1))
        replace HO_636002 := sd_ (Kd.R_mono (Kd.R_told (Kd.R_told (Kd.R_old (ro_ HO_636002.out) hb) (Kd.R_base ho0)) (Kd.R_base ho1)) (fun _ h_ => h_.1))
        have HO647 := sd_ (Kd.R_lower (Kd.R_new' (Kd.R_new' ho2 (Kd.R_lt (ro_ HO_625003.out))) (Kd.R_lt (ro_ HO_636003.out))) (below_size (bw4_ HB.out GE588.out GE589.out GE624.out GE635.out)))
        replace HO_625003 := sd_ (Kd.R_elder' (ro_ HO_625003.out) (Kd.R_base ho2) hb)
        replace HO_636003 := sd_ (Kd.R_elder' (ro_ HO_636003.out) (Kd.R_base ho2) hb)
        replace BK588 := sd_ (bb_ BK588.out hb)
        replace BK589 := sd_ (bb_ BK589.out hb)
        replace BK624 := sd_ (bb_ BK624.out hb)
        replace BK635 := sd_ (bb_ BK635.out hb)
        replace HB := sd_ (below_step (bw4_ HB.out GE588.out GE589.out GE624.out GE635.out) hb)
        (try clear hb)
        (try clear hb2)
        (try clear hk)
        (try clear hi)
        (try clear ho0)
        (try clear ho1)
        (try clear ho2)
        obtain ⟨Ao75, co75, eo75⟩ := Kd.R_slice HO641.out
        (first | subst eo75 | (injection eo75 with f1_ f2_ f3_; have f4_ := f1_.symm; have f5_ := f3_.symm; clear f1_ f2_ f3_; subst f4_; subst f5_))
        obtain ⟨Ao76, co76, eo76⟩ := Kd.R_slice HO644.out
        (first | subst eo76 | (injection eo76 with f1_ f2_ f3_; have f4_ := f1_.symm; have f5_ := f3_.symm; clear f1_ f2_ f3_; subst f4_; subst f5_))
        obtain ⟨Ao77, co77, eo77⟩ := Kd.R_slice HO647.out
        (first | subst eo77 | (injection eo77 with f1_ f2_ f3_; have f4_ := f1_.symm; have f5_ := f3_.symm; clear f1_ f2_ f3_; subst f4_; subst f5_))
        refine hK.out _ _ ⟨(blk_cell BK624.out 0).trans rfl, (blk_cell BK624.out 1).trans rfl, (blk_cell BK624.out 2).trans rfl, (blk_cell BK624.out 3).trans rfl, (blk_cell BK588.out 0).trans rfl, (blk_cell BK588.out 1).trans rfl, (blk_cell BK588.out 2).trans rfl, (blk_cell BK588.out 3).trans rfl⟩ (fun hHeld => ?_)
        clear hK K
        refine norm_ (a' := ?_) ?_ ?_
        rotate_left
        ·show Act.put _ (some 54) _ = _
         simp only [Act.put, List.setIfInBounds_toArray, List.set_cons_zero, List.set_cons_succ, i64_w, i32_w]
         rfl
        refine one_ (i := 3) (N := some 55) #[true, true, true, true, false] rfl rfl (by kernel_rfl) (by decide) (fun K hK => ?_)
        refine goes_ Try.func25 (by kernel_rfl) rfl #[.agg #[.int .i64 t614, .slice Ao50 t615.length co50, .slice Ao51 t618.length co51, .slice Ao52 t621.length co52], .agg #[.int .i64 t638, .slice Ao75 t639.length co75, .slice Ao76 t642.length co76, .slice Ao77 t645.length co77]] (by rfl) rfl rfl (by (try simp only [List.map_toArray, List.map_cons, List.map_nil]); first | done | rfl | (simp only [List.length_drop, List.length_take]; rfl)) ?_
        with_reducible refine (laws_eqSystem.calls kj25 t614 _ _ t615 _ _ t618 _ _ t621 t638 _ _ t639 _ _ t642 _ _ t645 true _ ?side1 ?side2 ?side3 ?side4 ?side5 ?side6 ?side7 ?side8 ?side9 ?side10 ?side11 ?side12 A68.out).mono ?_
        (case side1 => exact kp_ (Kd.R_reads' HO_625001.out).2.2)
        (case side2 => exact (Kd.R_reads' HO_625001.out).2.1)
        (case side3 => exact kp_ (Kd.R_reads' HO_625002.out).2.2)
        (case side4 => exact (Kd.R_reads' HO_625002.out).2.1)
        (case side5 => exact kp_ (Kd.R_reads' HO_625003.out).2.2)
        (case side6 => exact (Kd.R_reads' HO_625003.out).2.1)
        (case side7 => exact kp_ (Kd.R_reads' HO641.out).2.2)
        (case side8 => exact (Kd.R_reads' HO641.out).2.1)
        (case side9 => exact kp_ (Kd.R_reads' HO644.out).2.2)
        (case side10 => exact (Kd.R_reads' HO644.out).2.1)
        (case side11 => exact kp_ (Kd.R_reads' HO647.out).2.2)
        (case side12 => exact (Kd.R_reads' HO647.out).2.1)
        rintro e w78 ⟨rfl, hb⟩
        refine ⟨_, rfl, ?_⟩
        replace HO_625001 := sd_ (Kd.R_below (ro_ HO_625001.out) hb)
        replace HO_625002 := sd_ (Kd.R_below (ro_ HO_625002.out) hb)
        replace HO_625003 := sd_ (Kd.R_below (ro_ HO_625003.out) hb)
        replace HO_636001 := sd_ (Kd.R_below (ro_ HO_636001.out) hb)
        replace HO_636002 := sd_ (Kd.R_below (ro_ HO_636002.out) hb)
        replace HO_636003 := sd_ (Kd.R_below (ro_ HO_636003.out) hb)
        replace HO641 := sd_ (Kd.R_below (ro_ HO641.out) hb)
        replace HO644 := sd_ (Kd.R_below (ro_ HO644.out) hb)
        replace HO647 := sd_ (Kd.R_below (ro_ HO647.out) hb)
        replace BK588 := sd_ (bb_ BK588.out hb)
        replace BK589 := sd_ (bb_ BK589.out hb)
        replace BK624 := sd_ (bb_ BK624.out hb)
        replace BK635 := sd_ (bb_ BK635.out hb)
        replace HB := sd_ (below_step (bw4_ HB.out GE588.out GE589.out GE624.out GE635.out) hb)
        (try clear hb)
        (try clear hb2)
        (try clear hk)
        (try clear hi)
        refine hK.out _ _ ⟨(blk_cell BK624.out 0).trans rfl, (blk_cell BK624.out 1).trans rfl, (blk_cell BK624.out 2).trans rfl, (blk_cell BK624.out 3).trans rfl, (blk_cell BK588.out 0).trans rfl, (blk_cell BK588.out 1).trans rfl, (blk_cell BK588.out 2).trans rfl, (blk_cell BK588.out 3).trans rfl⟩ (fun hHeld => ?_)
        clear hK K
        refine norm_ (a' := ?_) ?_ ?_
        rotate_left
        ·show Act.put _ (some 55) _ = _
         simp only [Act.put, List.setIfInBounds_toArray, List.set_cons_zero, List.set_cons_succ, i64_w, i32_w]
         rfl
        refine pure_ (i := 4) (N := some 56) (v := ?_) (a' := ?_) #[true, true, true, true, true] rfl rfl (by kernel_rfl) (fun _ _ _ h => h) (Or.inl ⟨by rfl, ?_⟩) ?_ ?_
        rotate_left
        ·intro w'
         go_simp
         with_reducible rfl
        rotate_left
        ·simp only [Act.put, List.setIfInBounds_toArray, List.set_cons_zero, List.set_cons_succ, i64_w, i32_w]
         rfl
        refine done_ (by kernel_rfl) ?_
        try go_wp2
        replace HO_625001 := sd_ (Kd.R_drew HO_625001.out)
        replace HO_625002 := sd_ (Kd.R_drew HO_625002.out)
        replace HO_625003 := sd_ (Kd.R_drew HO_625003.out)
        replace HO_636001 := sd_ (Kd.R_drew HO_636001.out)
        replace HO_636002 := sd_ (Kd.R_drew HO_636002.out)
        replace HO_636003 := sd_ (Kd.R_drew HO_636003.out)
        replace HO641 := sd_ (Kd.R_drew HO641.out)
        replace HO644 := sd_ (Kd.R_drew HO644.out)
        replace HO647 := sd_ (Kd.R_drew HO647.out)
        replace BK588 := sd_ (blk_drew BK588.out)
        replace BK589 := sd_ (blk_drew BK589.out)
        replace BK624 := sd_ (blk_drew BK624.out)
        replace BK635 := sd_ (blk_drew BK635.out)
        replace HB := sd_ (below_drew1 HB.out)
        refine start_ (n := 5) (S := fun w' => w'.cell? ⟨gb635, 0, none⟩ = some (.int .i64 t625) ∧ w'.cell? ⟨gb635, 1, none⟩ = some (.slice Ao60 t626.length co60) ∧ w'.cell? ⟨gb635, 2, none⟩ = some (.slice Ao61 t629.length co61) ∧ w'.cell? ⟨gb635, 3, none⟩ = some (.slice Ao62 t632.length co62) ∧ w'.cell? ⟨gb589, 0, none⟩ = some (.int .i64 a1_0) ∧ w'.cell? ⟨gb589, 1, none⟩ = some (.slice A1_1 l1_1.length c1_1) ∧ w'.cell? ⟨gb589, 2, none⟩ = some (.slice A1_2 l1_2.length c1_2) ∧ w'.cell? ⟨gb589, 3, none⟩ = some (.slice A1_3 l1_3.length c1_3)) (ds := []) #[false, false, false, false, false] (by kernel_rfl) rfl rfl ⟨(blk_cell BK635.out 0).trans rfl, (blk_cell BK635.out 1).trans rfl, (blk_cell BK635.out 2).trans rfl, (blk_cell BK635.out 3).trans rfl, (blk_cell BK589.out 0).trans rfl, (blk_cell BK589.out 1).trans rfl, (blk_cell BK589.out 2).trans rfl, (blk_cell BK589.out 3).trans rfl⟩ (fun hHeld => ?_)
        generalize w78.drew = w79 at HO_625001 HO_625002 HO_625003 HO_636001 HO_636002 HO_636003 HO641 HO644 HO647 BK588 BK589 BK624 BK635 HB hHeld ⊢
        refine take_ (i := 0) (N := some 57) (v := ?_) (a' := ?_) #[true, false, false, false, false] rfl rfl (by kernel_rfl) (fun _ _ _ h => h) (Or.inl ⟨by rfl, ?_⟩) hHeld ?_ ?_
        rotate_left
        ·rintro w' ⟨s0, s1, s2, s3, s4, s5, s6, s7⟩
         go_simp
         with_reducible rfl
        rotate_left
        ·simp only [Act.put, List.setIfInBounds_toArray, List.set_cons_zero, List.set_cons_succ, i64_w, i32_w]
         rfl
        refine take_ (i := 1) (N := some 58) (v := ?_) (a' := ?_) #[true, true, false, false, false] rfl rfl (by kernel_rfl) (fun _ _ _ h => h) (Or.inl ⟨by rfl, ?_⟩) hHeld ?_ ?_
        rotate_left
        ·rintro w' ⟨s0, s1, s2, s3, s4, s5, s6, s7⟩
         go_simp
         with_reducible rfl
        rotate_left
        ·simp only [Act.put, List.setIfInBounds_toArray, List.set_cons_zero, List.set_cons_succ, i64_w, i32_w]
         rfl
        refine one_ (i := 2) (N := some 59) #[true, true, true, false, false] rfl rfl (by kernel_rfl) (by decide) (fun K hK => ?_)
        refine goes_ Try.func24 (by kernel_rfl) rfl #[.agg #[.int .i64 a1_0, .slice A1_1 l1_1.length c1_1, .slice A1_2 l1_2.length c1_2, .slice A1_3 l1_3.length c1_3]] (by rfl) rfl rfl (by (try simp only [List.map_toArray, List.map_cons, List.map_nil]); first | done | rfl | (simp only [List.length_drop, List.length_take]; rfl)) ?_
        with_reducible refine (laws_toSystem.calls kj25 a1_0 _ _ l1_1 _ _ l1_2 _ _ l1_3 t649 t650 t653 t656 _ ?side1 ?side2 ?side3 ?side4 ?side5 ?side6 A70.out).mono ?_
        (case side1 => exact kc_ HR1_1.out HB.out)
        (case side2 => exact HC1_1.out)
        (case side3 => exact kc_ HR1_2.out HB.out)
        (case side4 => exact HC1_2.out)
        (case side5 => exact kc_ HR1_3.out HB.out)
        (case side6 => exact HC1_3.out)
        rintro e w80 ⟨v651, v654, v657, rfl, ho0, ho1, ho2, hb⟩
        refine ⟨_, rfl, ?_⟩
        have HO652 := sd_ (Kd.R_lower (Kd.R_new' (Kd.R_new' (Kd.R_new' (Kd.R_new' (Kd.R_new' (Kd.R_new' ho0 (Kd.R_lt (ro_ HO_625001.out))) (Kd.R_lt (ro_ HO_625002.out))) (Kd.R_lt (ro_ HO_636001.out))) (Kd.R_lt (ro_ HO_636002.out))) (Kd.R_lt (ro_ HO641.out))) (Kd.R_lt (ro_ HO644.out))) (below_size (bw4_ HB.out GE588.out GE589.out GE624.out GE635.out)))
        have HO655 := sd_ (Kd.R_lower (Kd.R_new' (Kd.R_new' (Kd.R_new' (Kd.R_new' (Kd.R_new' (Kd.R_new' ho1 (Kd.R_lt (ro_ HO_625001.out))) (Kd.R_lt (ro_ HO_625002.out))) (Kd.R_lt (ro_ HO_636001.out))) (Kd.R_lt (ro_ HO_636002.out))) (Kd.R_lt (ro_ HO641.out))) (Kd.R_lt (ro_ HO644.out))) (below_size (bw4_ HB.out GE588.out GE589.out GE624.out GE635.out)))
        replace HO_625001 := sd_ (Kd.R_mono (Kd.R_told (Kd.R_told (Kd.R_old (ro_ HO_625001.out) hb) (Kd.R_base ho0)) (Kd.R_base ho1)) (fun _ h_ => h_.1))
        replace HO_625002 := sd_ (Kd.R_mono (Kd.R_told (Kd.R_told (Kd.R_old (ro_ HO_625002.out) hb) (Kd.R_base ho0)) (Kd.R_base ho1)) (fun _ h_ => h_.1))
        replace HO_636001 := sd_ (Kd.R_mono (Kd.R_told (Kd.R_told (Kd.R_old (ro_ HO_636001.out) hb) (Kd.R_base ho0)) (Kd.R_base ho1)) (fun _ h_ => h_.1))
        replace HO_636002 := sd_ (Kd.R_mono (Kd.R_told (Kd.R_told (Kd.R_old (ro_ HO_636002.out) hb) (Kd.R_base ho0)) (Kd.R_base ho1)) (fun _ h_ => h_.1))
        replace HO641 := sd_ (Kd.R_mono (Kd.R_told (Kd.R_told (Kd.R_old (ro_ HO641.out) hb) (Kd.R_base ho0)) (Kd.R_base ho1)) (fun _ h_ => h_.1))
        replace HO644 := sd_ (Kd.R_mono (Kd.R_told (Kd.R_told (Kd.R_old (ro_ HO644.out) hb) (Kd.R_base ho0)) (Kd.R_base ho1)) (fun _ h_ => h_.1))
        have HO658 := sd_ (Kd.R_lower (Kd.R_new' (Kd.R_new' (Kd.R_new' ho2 (Kd.R_lt (ro_ HO_625003.out))) (Kd.R_lt (ro_ HO_636003.out))) (Kd.R_lt (ro_ HO647.out))) (below_size (bw4_ HB.out GE588.out GE589.out GE624.out GE635.out)))
        replace HO_625003 := sd_ (Kd.R_elder' (ro_ HO_625003.out) (Kd.R_base ho2) hb)
        replace HO_636003 := sd_ (Kd.R_elder' (ro_ HO_636003.out) (Kd.R_base ho2) hb)
        replace HO647 := sd_ (Kd.R_elder' (ro_ HO647.out) (Kd.R_base ho2) hb)
        replace BK588 := sd_ (bb_ BK588.out hb)
        replace BK589 := sd_ (bb_ BK589.out hb)
        replace BK624 := sd_ (bb_ BK624.out hb)
        replace BK635 := sd_ (bb_ BK635.out hb)
        replace HB := sd_ (below_step (bw4_ HB.out GE588.out GE589.out GE624.out GE635.out) hb)
        (try clear hb)
        (try clear hb2)
        (try clear hk)
        (try clear hi)
        (try clear ho0)
        (try clear ho1)
        (try clear ho2)
        obtain ⟨Ao81, co81, eo81⟩ := Kd.R_slice HO652.out
        (first | subst eo81 | (injection eo81 with f1_ f2_ f3_; have f4_ := f1_.symm; have f5_ := f3_.symm; clear f1_ f2_ f3_; subst f4_; subst f5_))
        obtain ⟨Ao82, co82, eo82⟩ := Kd.R_slice HO655.out
        (first | subst eo82 | (injection eo82 with f1_ f2_ f3_; have f4_ := f1_.symm; have f5_ := f3_.symm; clear f1_ f2_ f3_; subst f4_; subst f5_))
        obtain ⟨Ao83, co83, eo83⟩ := Kd.R_slice HO658.out
        (first | subst eo83 | (injection eo83 with f1_ f2_ f3_; have f4_ := f1_.symm; have f5_ := f3_.symm; clear f1_ f2_ f3_; subst f4_; subst f5_))
        refine hK.out _ _ ⟨(blk_cell BK635.out 0).trans rfl, (blk_cell BK635.out 1).trans rfl, (blk_cell BK635.out 2).trans rfl, (blk_cell BK635.out 3).trans rfl, (blk_cell BK589.out 0).trans rfl, (blk_cell BK589.out 1).trans rfl, (blk_cell BK589.out 2).trans rfl, (blk_cell BK589.out 3).trans rfl⟩ (fun hHeld => ?_)
        clear hK K
        refine norm_ (a' := ?_) ?_ ?_
        rotate_left
        ·show Act.put _ (some 59) _ = _
         simp only [Act.put, List.setIfInBounds_toArray, List.set_cons_zero, List.set_cons_succ, i64_w, i32_w]
         rfl
        refine one_ (i := 3) (N := some 60) #[true, true, true, true, false] rfl rfl (by kernel_rfl) (by decide) (fun K hK => ?_)
        refine goes_ Try.func25 (by kernel_rfl) rfl #[.agg #[.int .i64 t625, .slice Ao60 t626.length co60, .slice Ao61 t629.length co61, .slice Ao62 t632.length co62], .agg #[.int .i64 t649, .slice Ao81 t650.length co81, .slice Ao82 t653.length co82, .slice Ao83 t656.length co83]] (by rfl) rfl rfl (by (try simp only [List.map_toArray, List.map_cons, List.map_nil]); first | done | rfl | (simp only [List.length_drop, List.length_take]; rfl)) ?_
        with_reducible refine (laws_eqSystem.calls kj25 t625 _ _ t626 _ _ t629 _ _ t632 t649 _ _ t650 _ _ t653 _ _ t656 true _ ?side1 ?side2 ?side3 ?side4 ?side5 ?side6 ?side7 ?side8 ?side9 ?side10 ?side11 ?side12 A71.out).mono ?_
        (case side1 => exact kp_ (Kd.R_reads' HO_636001.out).2.2)
        (case side2 => exact (Kd.R_reads' HO_636001.out).2.1)
        (case side3 => exact kp_ (Kd.R_reads' HO_636002.out).2.2)
        (case side4 => exact (Kd.R_reads' HO_636002.out).2.1)
        (case side5 => exact kp_ (Kd.R_reads' HO_636003.out).2.2)
        (case side6 => exact (Kd.R_reads' HO_636003.out).2.1)
        (case side7 => exact kp_ (Kd.R_reads' HO652.out).2.2)
        (case side8 => exact (Kd.R_reads' HO652.out).2.1)
        (case side9 => exact kp_ (Kd.R_reads' HO655.out).2.2)
        (case side10 => exact (Kd.R_reads' HO655.out).2.1)
        (case side11 => exact kp_ (Kd.R_reads' HO658.out).2.2)
        (case side12 => exact (Kd.R_reads' HO658.out).2.1)
        rintro e w84 ⟨rfl, hb⟩
        refine ⟨_, rfl, ?_⟩
        replace HO_625001 := sd_ (Kd.R_below (ro_ HO_625001.out) hb)
        replace HO_625002 := sd_ (Kd.R_below (ro_ HO_625002.out) hb)
        replace HO_625003 := sd_ (Kd.R_below (ro_ HO_625003.out) hb)
        replace HO_636001 := sd_ (Kd.R_below (ro_ HO_636001.out) hb)
        replace HO_636002 := sd_ (Kd.R_below (ro_ HO_636002.out) hb)
        replace HO_636003 := sd_ (Kd.R_below (ro_ HO_636003.out) hb)
        replace HO641 := sd_ (Kd.R_below (ro_ HO641.out) hb)
        replace HO644 := sd_ (Kd.R_below (ro_ HO644.out) hb)
        replace HO647 := sd_ (Kd.R_below (ro_ HO647.out) hb)
        replace HO652 := sd_ (Kd.R_below (ro_ HO652.out) hb)
        replace HO655 := sd_ (Kd.R_below (ro_ HO655.out) hb)
        replace HO658 := sd_ (Kd.R_below (ro_ HO658.out) hb)
        replace BK588 := sd_ (bb_ BK588.out hb)
        replace BK589 := sd_ (bb_ BK589.out hb)
        replace BK624 := sd_ (bb_ BK624.out hb)
        replace BK635 := sd_ (bb_ BK635.out hb)
        replace HB := sd_ (below_step (bw4_ HB.out GE588.out GE589.out GE624.out GE635.out) hb)
        (try clear hb)
        (try clear hb2)
        (try clear hk)
        (try clear hi)
        refine hK.out _ _ ⟨(blk_cell BK635.out 0).trans rfl, (blk_cell BK635.out 1).trans rfl, (blk_cell BK635.out 2).trans rfl, (blk_cell BK635.out 3).trans rfl, (blk_cell BK589.out 0).trans rfl, (blk_cell BK589.out 1).trans rfl, (blk_cell BK589.out 2).trans rfl, (blk_cell BK589.out 3).trans rfl⟩ (fun hHeld => ?_)
        clear hK K
        refine norm_ (a' := ?_) ?_ ?_
        rotate_left
        ·show Act.put _ (some 60) _ = _
         simp only [Act.put, List.setIfInBounds_toArray, List.set_cons_zero, List.set_cons_succ, i64_w, i32_w]
         rfl
        refine pure_ (i := 4) (N := some 61) (v := ?_) (a' := ?_) #[true, true, true, true, true] rfl rfl (by kernel_rfl) (fun _ _ _ h => h) (Or.inl ⟨by rfl, ?_⟩) ?_ ?_
        rotate_left
        ·intro w'
         go_simp
         with_reducible rfl
        rotate_left
        ·simp only [Act.put, List.setIfInBounds_toArray, List.set_cons_zero, List.set_cons_succ, i64_w, i32_w]
         rfl
        refine done_ (by kernel_rfl) ?_
        try go_wp2
        go_ret
        exact ⟨by first | rfl | (simp [errW_none, errW_some] <;> rfl) | (simp [*, errW_none, errW_some] <;> rfl), bw4_ HB.out GE588.out GE589.out GE624.out GE635.out⟩
       ·replace c72 := Bool.eq_false_iff.mpr c72
        subst c72
        have H1 : (some false) = some r := by rw [if_neg (show ¬ (false = true) by decide)] at H; exact H
        clear H
        have H := H1
        clear H1
        obtain rfl := Option.some.inj H
        exact absurd hr_ (by decide)
      ·replace c69 := Bool.eq_false_iff.mpr c69
       subst c69
       have H1 : (some false) = some r := by rw [if_neg (show ¬ (false = true) by decide)] at H; exact H
       clear H
       have H := H1
       clear H1
       obtain rfl := Option.some.inj H
       exact absurd hr_ (by decide)

def laws_FnExactPartsOfGrade.Pure : Prop := ∀ (a0_0 : Int) (l0_1 : List Int) (l0_2 : List Int) (l0_3 : List Bool) (a1_0 : Int) (l1_1 : List Int) (l1_2 : List Int) (l1_3 : List Bool) (a2 : Int), (Lit.int .i64 a0_0).wf = true → ((∀ z ∈ l0_1, (Lit.int .i64 z).wf = true) ∧ l0_1.length ≤ maxLen) → ((∀ z ∈ l0_2, (Lit.int .i64 z).wf = true) ∧ l0_2.length ≤ maxLen) → ((∀ z ∈ l0_3, True) ∧ l0_3.length ≤ maxLen) → (Lit.int .i64 a1_0).wf = true → ((∀ z ∈ l1_1, (Lit.int .i64 z).wf = true) ∧ l1_1.length ≤ maxLen) → ((∀ z ∈ l1_2, (Lit.int .i64 z).wf = true) ∧ l1_2.length ≤ maxLen) → ((∀ z ∈ l1_3, True) ∧ l1_3.length ≤ maxLen) → (Lit.int .i64 a2).wf = true → ∃ k, laws_FnExactPartsOfGrade.f k a0_0 l0_1 l0_2 l0_3 a1_0 l1_1 l1_2 l1_3 a2 = some true

end Go.Proofs.Ytcdmnofomoadlaa.P
