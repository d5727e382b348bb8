-- Printed by this session's own program (wip/tools/mkprint.py) out of the translation. Not trusted: Lean checks it.
import Derived.Test.YtcdmnofomoadlaaP0
import Derived.Test.YtcdmnofomoadlaaPf19
import Derived.Test.YtcdmnofomoadlaaPf22
import Derived.Test.YtcdmnofomoadlaaPf23
import Derived.Test.YtcdmnofomoadlaaPf24
import Derived.Test.YtcdmnofomoadlaaPf25
/-! short words -/
namespace Go.Proofs.Ytcdmnofomoadlaa.P
open Go.RowKit Go.Proofs.YtcdmnofomoadlaaW.PrintWords Go.Proofs.YtcdmnofomoadlaaW.PrintLast Go.Proofs.YtcdmnofomoadlaaW.PrintMore
attribute [local go_sem] max2_int min2_int max_two min_two max_three min_three max_four min_four   -- for this text's walks alone
set_option linter.unusedVariables false
set_option linter.unusedSimpArgs false

/-! ### laws_FnExactPairGrades: function 4 -/
def laws_FnExactPairGrades.f (k : Nat) (a0_0 : Int) (l0_1 : List Int) (l0_2 : List Int) (l0_3 : List Bool) (a1_0 : Int) (l1_1 : List Int) (l1_2 : List Int) (l1_3 : List Bool) (a2 : Int) (a3 : Int) : Option (Bool) := (laws_szSystem.f a0_0 l0_1 l0_2 l0_3 1048576).bind fun t514 => (if t514 < 0 then (some true) else ((laws_szSystem.f a1_0 l1_1 l1_2 l1_3 t514).bind fun t515 => (if t515 < 0 then (some true) else ((laws_toSystem.f k a0_0 l0_1 l0_2 l0_3).bind fun bt516 => ((laws_toSystem.f k a1_0 l1_1 l1_2 l1_3).bind fun bt526 => ((spec_PairGrades.f k bt516.1 bt516.2.1 bt516.2.2.1 bt516.2.2.2 bt526.1 bt526.2.1 bt526.2.2.1 bt526.2.2.2 a2 a3).bind fun t536 => ((laws_toSystem.f k a0_0 l0_1 l0_2 l0_3).bind fun bt537 => ((laws_toSystem.f k a1_0 l1_1 l1_2 l1_3).bind fun bt548 => ((impl_PairGrades.f k bt537.1 bt537.2.1 bt537.2.2.1 bt537.2.2.2 bt548.1 bt548.2.1 bt548.2.2.1 bt548.2.2.2 a2 a3).bind fun t559 => (if t559 = t536 then ((laws_toSystem.f k a0_0 l0_1 l0_2 l0_3).bind fun bt560 => ((laws_eqSystem.f k bt537.1 bt537.2.1 bt537.2.2.1 bt537.2.2.2 bt560.1 bt560.2.1 bt560.2.2.1 bt560.2.2.2).bind fun t570 => (if t570 = true then ((laws_toSystem.f k a1_0 l1_1 l1_2 l1_3).bind fun bt571 => ((laws_eqSystem.f k bt548.1 bt548.2.1 bt548.2.2.1 bt548.2.2.2 bt571.1 bt571.2.1 bt571.2.2.1 bt571.2.2.2).bind fun t581 => (if t581 = true then (some true) else (some false)))) else (some false)))) else (some false)))))))))))
def laws_FnExactPairGrades.T8 : Bool × List (List Nat × List Nat) := (true, [([], []), ([0], [0]), ([], []), ([2, 1], [2]), ([], []), ([], []), ([1, 3, 4, 5, 3], [1, 3, 4, 5]), ([6, 6, 0, 1, 2, 3, 4, 5, 6], [6])])
def laws_FnExactPairGrades.B8 : List Nat := [0, 1, 0, 7, 0, 0, 63, 127]
theorem laws_FnExactPairGrades.tab8 : rtab .any (opsOf Try.f4 8) = laws_FnExactPairGrades.T8 := by kernel_rfl
theorem laws_FnExactPairGrades.bits8 : waitsOk laws_FnExactPairGrades.T8.2 laws_FnExactPairGrades.B8 = true := by kernel_rfl
set_option maxHeartbeats 8000000 in
set_option maxRecDepth 100000 in
theorem laws_FnExactPairGrades.calls (k : Nat) (a0_0 : Int) (A0_1 : Option Addr) (c0_1 : Nat) (l0_1 : List Int) (A0_2 : Option Addr) (c0_2 : Nat) (l0_2 : List Int) (A0_3 : Option Addr) (c0_3 : Nat) (l0_3 : List Bool) (a1_0 : Int) (A1_1 : Option Addr) (c1_1 : Nat) (l1_1 : List Int) (A1_2 : Option Addr) (c1_2 : Nat) (l1_2 : List Int) (A1_3 : Option Addr) (c1_3 : Nat) (l1_3 : List Bool) (a2 : Int) (a3 : Int) (r : Bool) (w : World) (hr0_1 : Kd.C (Kd.int .i64) w A0_1 l0_1.length l0_1) (hc0_1 : l0_1.length ≤ c0_1) (hr0_2 : Kd.C (Kd.int .i64) w A0_2 l0_2.length l0_2) (hc0_2 : l0_2.length ≤ c0_2) (hr0_3 : Kd.C Kd.bool w A0_3 l0_3.length l0_3) (hc0_3 : l0_3.length ≤ c0_3) (hr1_1 : Kd.C (Kd.int .i64) w A1_1 l1_1.length l1_1) (hc1_1 : l1_1.length ≤ c1_1) (hr1_2 : Kd.C (Kd.int .i64) w A1_2 l1_2.length l1_2) (hc1_2 : l1_2.length ≤ c1_2) (hr1_3 : Kd.C Kd.bool w A1_3 l1_3.length l1_3) (hc1_3 : l1_3.length ≤ c1_3) (h : laws_FnExactPairGrades.f k a0_0 l0_1 l0_2 l0_3 a1_0 l1_1 l1_2 l1_3 a2 a3 = some r) (hr_ : r = true) :
  Calls Try.prog 4 #[.agg #[.int .i64 a0_0, .slice A0_1 l0_1.length c0_1, .slice A0_2 l0_2.length c0_2, .slice A0_3 l0_3.length c0_3], .agg #[.int .i64 a1_0, .slice A1_1 l1_1.length c1_1, .slice A1_2 l1_2.length c1_2, .slice A1_3 l1_3.length c1_3], .int .i64 a2, .int .i64 a3] w fun e w' => e = .returned (.bool r) ∧ Below w.heap.size w w' := by
 have hu37 := Try.underlying37
 have hu27 := Try.underlying27
 have HR0_1 := sd_ hr0_1
 have HC0_1 := sd_ hc0_1
 clear hr0_1 hc0_1
 have HR0_2 := sd_ hr0_2
 have HC0_2 := sd_ hc0_2
 clear hr0_2 hc0_2
 have HR0_3 := sd_ hr0_3
 have HC0_3 := sd_ hc0_3
 clear hr0_3 hc0_3
 have HR1_1 := sd_ hr1_1
 have HC1_1 := sd_ hc1_1
 clear hr1_1 hc1_1
 have HR1_2 := sd_ hr1_2
 have HC1_2 := sd_ hc1_2
 clear hr1_2 hc1_2
 have HR1_3 := sd_ hr1_3
 have HC1_3 := sd_ hc1_3
 clear hr1_3 hc1_3
 have HB := sd_ (Below.refl w.heap.size w)
 have H : ((laws_szSystem.f a0_0 l0_1 l0_2 l0_3 1048576).bind fun t514 => (if t514 < 0 then (some true) else ((laws_szSystem.f a1_0 l1_1 l1_2 l1_3 t514).bind fun t515 => (if t515 < 0 then (some true) else ((laws_toSystem.f k a0_0 l0_1 l0_2 l0_3).bind fun bt516 => ((laws_toSystem.f k a1_0 l1_1 l1_2 l1_3).bind fun bt526 => ((spec_PairGrades.f k bt516.1 bt516.2.1 bt516.2.2.1 bt516.2.2.2 bt526.1 bt526.2.1 bt526.2.2.1 bt526.2.2.2 a2 a3).bind fun t536 => ((laws_toSystem.f k a0_0 l0_1 l0_2 l0_3).bind fun bt537 => ((laws_toSystem.f k a1_0 l1_1 l1_2 l1_3).bind fun bt548 => ((impl_PairGrades.f k bt537.1 bt537.2.1 bt537.2.2.1 bt537.2.2.2 bt548.1 bt548.2.1 bt548.2.2.1 bt548.2.2.2 a2 a3).bind fun t559 => (if t559 = t536 then ((laws_toSystem.f k a0_0 l0_1 l0_2 l0_3).bind fun bt560 => ((laws_eqSystem.f k bt537.1 bt537.2.1 bt537.2.2.1 bt537.2.2.2 bt560.1 bt560.2.1 bt560.2.2.1 bt560.2.2.2).bind fun t570 => (if t570 = true then ((laws_toSystem.f k a1_0 l1_1 l1_2 l1_3).bind fun bt571 => ((laws_eqSystem.f k bt548.1 bt548.2.1 bt548.2.2.1 bt548.2.2.2 bt571.1 bt571.2.1 bt571.2.2.1 bt571.2.2.2).bind fun t581 => (if t581 = true then (some true) else (some false)))) else (some false)))) else (some false)))))))))))) = some r := h
 clear h
 replace H := Option.bind_eq_some_iff.mp H
 obtain ⟨t514, A50, H⟩ := H
 replace H : (if t514 < 0 then (some true) else ((laws_szSystem.f a1_0 l1_1 l1_2 l1_3 t514).bind fun t515 => (if t515 < 0 then (some true) else ((laws_toSystem.f k a0_0 l0_1 l0_2 l0_3).bind fun bt516 => ((laws_toSystem.f k a1_0 l1_1 l1_2 l1_3).bind fun bt526 => ((spec_PairGrades.f k bt516.1 bt516.2.1 bt516.2.2.1 bt516.2.2.2 bt526.1 bt526.2.1 bt526.2.2.1 bt526.2.2.2 a2 a3).bind fun t536 => ((laws_toSystem.f k a0_0 l0_1 l0_2 l0_3).bind fun bt537 => ((laws_toSystem.f k a1_0 l1_1 l1_2 l1_3).bind fun bt548 => ((impl_PairGrades.f k bt537.1 bt537.2.1 bt537.2.2.1 bt537.2.2.2 bt548.1 bt548.2.1 bt548.2.2.1 bt548.2.2.2 a2 a3).bind fun t559 => (if t559 = t536 then ((laws_toSystem.f k a0_0 l0_1 l0_2 l0_3).bind fun bt560 => ((laws_eqSystem.f k bt537.1 bt537.2.1 bt537.2.2.1 bt537.2.2.2 bt560.1 bt560.2.1 bt560.2.2.1 bt560.2.2.2).bind fun t570 => (if t570 = true then ((laws_toSystem.f k a1_0 l1_1 l1_2 l1_3).bind fun bt571 => ((laws_eqSystem.f k bt548.1 bt548.2.1 bt548.2.2.1 bt548.2.2.2 bt571.1 bt571.2.1 bt571.2.2.1 bt571.2.2.2).bind fun t581 => (if t581 = true then (some true) else (some false)))) else (some false)))) else (some false))))))))))) = some r := H
 have A5 := sd_ A50
 clear A50
 by_cases c6 : t514 < 0
 ·rw [if_pos c6] at H
  have c6b0 : decide (t514 < 0) = true := decide_eq_true c6
  clear c6
  obtain rfl := Option.some.inj H
  go_enter Try.func4, Try.ntmps4
  go_wp2_with (first | ((with_reducible refine gate_dst (N := 4) rfl ?_); refine box_event ?hg (N := 4) ?hd (cs := #[.int .i64 a0_0, .slice A0_1 l0_1.length c0_1, .slice A0_2 l0_2.length c0_2, .slice A0_3 l0_3.length c0_3]) (t := 37) ?hr ?_; (case hd => rfl); (case hg => rfl); (case hr => first | (go_simp; done) | (go_simp; rfl)); intro gb512 hg w7 hbox hb; have BK512 := sd_ (hbox); have GW512 := sd_ ((by rw [hg]; exact (below_size (bw0_ HB.out)) : w.heap.size ≤ gb512)); have GE512 := sd_ ((by rw [hg]; exact (below_size (bw0_ HB.out)) : w.heap.size ≤ gb512)); replace HB := sd_ (below_step (bw0_ HB.out) hb); clear hb hbox hg) | ((with_reducible refine gate_dst (N := 5) rfl ?_); refine box_event ?hg (N := 5) ?hd (cs := #[.int .i64 a1_0, .slice A1_1 l1_1.length c1_1, .slice A1_2 l1_2.length c1_2, .slice A1_3 l1_3.length c1_3]) (t := 37) ?hr ?_; (case hd => rfl); (case hg => rfl); (case hr => first | (go_simp; done) | (go_simp; rfl)); intro gb513 hg w8 hbox hb; have BK513 := sd_ (hbox); have GW513 := sd_ ((by rw [hg]; exact (below_size (bw1_ HB.out GE512.out)) : w.heap.size ≤ gb513)); have GE513 := sd_ ((by rw [hg]; exact (below_size (bw1_ HB.out GE512.out)) : w.heap.size ≤ gb513)); replace HB := sd_ (below_step (bw1_ HB.out GE512.out) hb); have NB512_513 := sd_ ((by rw [hg]; exact Nat.ne_of_lt (bl_ BK512.out) : gb512 ≠ gb513)); have NB513_512 := sd_ ((by rw [hg]; exact Nat.ne_of_gt (bl_ BK512.out) : gb513 ≠ gb512)); replace BK512 := sd_ (bb_ BK512.out hb); clear hb hbox hg; have hnb9 := NB512_513.out; have hnc9 := NB513_512.out; have hcz10_0 : w8.cell? ⟨gb512, 0, none⟩ = some (.int .i64 a0_0) := (blk_cell BK512.out 0).trans rfl; have hcz10_1 : w8.cell? ⟨gb512, 1, none⟩ = some (.slice A0_1 l0_1.length c0_1) := (blk_cell BK512.out 1).trans rfl; have hcz10_2 : w8.cell? ⟨gb512, 2, none⟩ = some (.slice A0_2 l0_2.length c0_2) := (blk_cell BK512.out 2).trans rfl; have hcz10_3 : w8.cell? ⟨gb512, 3, none⟩ = some (.slice A0_3 l0_3.length c0_3) := (blk_cell BK512.out 3).trans rfl; have hfz10_0 := blk_frozen BK512.out 0; have hfz10_1 := blk_frozen BK512.out 1; have hfz10_2 := blk_frozen BK512.out 2; have hfz10_3 := blk_frozen BK512.out 3) | ((with_reducible refine gate_callee (f := 22) rfl ?_); refine goesL_ (some 16) rfl rfl Try.func22 (by kernel_rfl) rfl #[.agg #[.int .i64 a0_0, .slice A0_1 l0_1.length c0_1, .slice A0_2 l0_2.length c0_2, .slice A0_3 l0_3.length c0_3], .int .i64 1048576] rfl (by (try simp only [List.map_toArray, List.map_cons, List.map_nil]); first | done | rfl | (simp only [List.length_drop, List.length_take]; rfl)) ?_; (with_reducible refine (laws_szSystem.calls a0_0 _ _ l0_1 _ _ l0_2 _ _ l0_3 1048576 t514 _ ?side1 ?side2 ?side3 ?side4 ?side5 ?side6 A5.out).mono ?_); (case side1 => exact kc_ HR0_1.out HB.out); (case side2 => exact HC0_1.out); (case side3 => exact kc_ HR0_2.out HB.out); (case side4 => exact HC0_2.out); (case side5 => exact kc_ HR0_3.out HB.out); (case side6 => exact HC0_3.out); rintro e w11 ⟨rfl, hb⟩; refine ⟨_, rfl, ?_⟩; replace BK512 := sd_ (bb_ BK512.out hb); replace BK513 := sd_ (bb_ BK513.out hb); replace HB := sd_ (below_step (bw2_ HB.out GE512.out GE513.out) hb); (try clear hb); (try clear hb2); (try clear hk); (try clear hi)))
  go_ret
  exact ⟨by first | rfl | (simp [errW_none, errW_some] <;> rfl) | (simp [*, errW_none, errW_some] <;> rfl), bw2_ HB.out GE512.out GE513.out⟩
 ·rw [if_neg c6] at H
  have c6b0 : decide (t514 < 0) = false := decide_eq_false c6
  clear c6
  replace H := Option.bind_eq_some_iff.mp H
  obtain ⟨t515, A120, H⟩ := H
  replace H : (if t515 < 0 then (some true) else ((laws_toSystem.f k a0_0 l0_1 l0_2 l0_3).bind fun bt516 => ((laws_toSystem.f k a1_0 l1_1 l1_2 l1_3).bind fun bt526 => ((spec_PairGrades.f k bt516.1 bt516.2.1 bt516.2.2.1 bt516.2.2.2 bt526.1 bt526.2.1 bt526.2.2.1 bt526.2.2.2 a2 a3).bind fun t536 => ((laws_toSystem.f k a0_0 l0_1 l0_2 l0_3).bind fun bt537 => ((laws_toSystem.f k a1_0 l1_1 l1_2 l1_3).bind fun bt548 => ((impl_PairGrades.f k bt537.1 bt537.2.1 bt537.2.2.1 bt537.2.2.2 bt548.1 bt548.2.1 bt548.2.2.1 bt548.2.2.2 a2 a3).bind fun t559 => (if t559 = t536 then ((laws_toSystem.f k a0_0 l0_1 l0_2 l0_3).bind fun bt560 => ((laws_eqSystem.f k bt537.1 bt537.2.1 bt537.2.2.1 bt537.2.2.2 bt560.1 bt560.2.1 bt560.2.2.1 bt560.2.2.2).bind fun t570 => (if t570 = true then ((laws_toSystem.f k a1_0 l1_1 l1_2 l1_3).bind fun bt571 => ((laws_eqSystem.f k bt548.1 bt548.2.1 bt548.2.2.1 bt548.2.2.2 bt571.1 bt571.2.1 bt571.2.2.1 bt571.2.2.2).bind fun t581 => (if t581 = true then (some true) else (some false)))) else (some false)))) else (some false))))))))) = some r := H
  have A12 := sd_ A120
  clear A120
  by_cases c13 : t515 < 0
  ·rw [if_pos c13] at H
   have c13b0 : decide (t515 < 0) = true := decide_eq_true c13
   clear c13
   obtain rfl := Option.some.inj H
   go_enter Try.func4, Try.ntmps4
   go_wp2_with (first | ((with_reducible refine gate_dst (N := 4) rfl ?_); refine box_event ?hg (N := 4) ?hd (cs := #[.int .i64 a0_0, .slice A0_1 l0_1.length c0_1, .slice A0_2 l0_2.length c0_2, .slice A0_3 l0_3.length c0_3]) (t := 37) ?hr ?_; (case hd => rfl); (case hg => rfl); (case hr => first | (go_simp; done) | (go_simp; rfl)); intro gb512 hg w14 hbox hb; have BK512 := sd_ (hbox); have GW512 := sd_ ((by rw [hg]; exact (below_size (bw0_ HB.out)) : w.heap.size ≤ gb512)); have GE512 := sd_ ((by rw [hg]; exact (below_size (bw0_ HB.out)) : w.heap.size ≤ gb512)); replace HB := sd_ (below_step (bw0_ HB.out) hb); clear hb hbox hg) | ((with_reducible refine gate_dst (N := 5) rfl ?_); refine box_event ?hg (N := 5) ?hd (cs := #[.int .i64 a1_0, .slice A1_1 l1_1.length c1_1, .slice A1_2 l1_2.length c1_2, .slice A1_3 l1_3.length c1_3]) (t := 37) ?hr ?_; (case hd => rfl); (case hg => rfl); (case hr => first | (go_simp; done) | (go_simp; rfl)); intro gb513 hg w15 hbox hb; have BK513 := sd_ (hbox); have GW513 := sd_ ((by rw [hg]; exact (below_size (bw1_ HB.out GE512.out)) : w.heap.size ≤ gb513)); have GE513 := sd_ ((by rw [hg]; exact (below_size (bw1_ HB.out GE512.out)) : w.heap.size ≤ gb513)); replace HB := sd_ (below_step (bw1_ HB.out GE512.out) hb); have NB512_513 := sd_ ((by rw [hg]; exact Nat.ne_of_lt (bl_ BK512.out) : gb512 ≠ gb513)); have NB513_512 := sd_ ((by rw [hg]; exact Nat.ne_of_gt (bl_ BK512.out) : gb513 ≠ gb512)); replace BK512 := sd_ (bb_ BK512.out hb); clear hb hbox hg; have hnb16 := NB512_513.out; have hnc16 := NB513_512.out; have hcz17_0 : w15.cell? ⟨gb512, 0, none⟩ = some (.int .i64 a0_0) := (blk_cell BK512.out 0).trans rfl; have hcz17_1 : w15.cell? ⟨gb512, 1, none⟩ = some (.slice A0_1 l0_1.length c0_1) := (blk_cell BK512.out 1).trans rfl; have hcz17_2 : w15.cell? ⟨gb512, 2, none⟩ = some (.slice A0_2 l0_2.length c0_2) := (blk_cell BK512.out 2).trans rfl; have hcz17_3 : w15.cell? ⟨gb512, 3, none⟩ = some (.slice A0_3 l0_3.length c0_3) := (blk_cell BK512.out 3).trans rfl; have hfz17_0 := blk_frozen BK512.out 0; have hfz17_1 := blk_frozen BK512.out 1; have hfz17_2 := blk_frozen BK512.out 2; have hfz17_3 := blk_frozen BK512.out 3) | ((with_reducible refine gate_callee (f := 22) rfl ?_); refine goesL_ (some 16) rfl rfl Try.func22 (by kernel_rfl) rfl #[.agg #[.int .i64 a0_0, .slice A0_1 l0_1.length c0_1, .slice A0_2 l0_2.length c0_2, .slice A0_3 l0_3.length c0_3], .int .i64 1048576] rfl (by (try simp only [List.map_toArray, List.map_cons, List.map_nil]); first | done | rfl | (simp only [List.length_drop, List.length_take]; rfl)) ?_; (with_reducible refine (laws_szSystem.calls a0_0 _ _ l0_1 _ _ l0_2 _ _ l0_3 1048576 t514 _ ?side1 ?side2 ?side3 ?side4 ?side5 ?side6 A5.out).mono ?_); (case side1 => exact kc_ HR0_1.out HB.out); (case side2 => exact HC0_1.out); (case side3 => exact kc_ HR0_2.out HB.out); (case side4 => exact HC0_2.out); (case side5 => exact kc_ HR0_3.out HB.out); (case side6 => exact HC0_3.out); rintro e w18 ⟨rfl, hb⟩; refine ⟨_, rfl, ?_⟩; replace BK512 := sd_ (bb_ BK512.out hb); replace BK513 := sd_ (bb_ BK513.out hb); replace HB := sd_ (below_step (bw2_ HB.out GE512.out GE513.out) hb); (try clear hb); (try clear hb2); (try clear hk); (try clear hi); have hcz19_0 : w18.cell? ⟨gb513, 0, none⟩ = some (.int .i64 a1_0) := (blk_cell BK513.out 0).trans rfl; have hcz19_1 : w18.cell? ⟨gb513, 1, none⟩ = some (.slice A1_1 l1_1.length c1_1) := (blk_cell BK513.out 1).trans rfl; have hcz19_2 : w18.cell? ⟨gb513, 2, none⟩ = some (.slice A1_2 l1_2.length c1_2) := (blk_cell BK513.out 2).trans rfl; have hcz19_3 : w18.cell? ⟨gb513, 3, none⟩ = some (.slice A1_3 l1_3.length c1_3) := (blk_cell BK513.out 3).trans rfl; have hfz19_0 := blk_frozen BK513.out 0; have hfz19_1 := blk_frozen BK513.out 1; have hfz19_2 := blk_frozen BK513.out 2; have hfz19_3 := blk_frozen BK513.out 3) | ((with_reducible refine gate_callee (f := 22) rfl ?_); refine goesL_ (some 21) rfl rfl Try.func22 (by kernel_rfl) rfl #[.agg #[.int .i64 a1_0, .slice A1_1 l1_1.length c1_1, .slice A1_2 l1_2.length c1_2, .slice A1_3 l1_3.length c1_3], .int .i64 t514] rfl (by (try simp only [List.map_toArray, List.map_cons, List.map_nil]); first | done | rfl | (simp only [List.length_drop, List.length_take]; rfl)) ?_; (with_reducible refine (laws_szSystem.calls a1_0 _ _ l1_1 _ _ l1_2 _ _ l1_3 t514 t515 _ ?side1 ?side2 ?side3 ?side4 ?side5 ?side6 A12.out).mono ?_); (case side1 => exact kc_ HR1_1.out HB.out); (case side2 => exact HC1_1.out); (case side3 => exact kc_ HR1_2.out HB.out); (case side4 => exact HC1_2.out); (case side5 => exact kc_ HR1_3.out HB.out); (case side6 => exact HC1_3.out); rintro e w20 ⟨rfl, hb⟩; refine ⟨_, rfl, ?_⟩; replace BK512 := sd_ (bb_ BK512.out hb); replace BK513 := sd_ (bb_ BK513.out hb); replace HB := sd_ (below_step (bw2_ HB.out GE512.out GE513.out) hb); (try clear hb); (try clear hb2); (try clear hk); (try clear hi)))
   go_ret
   exact ⟨by first | rfl | (simp [errW_none, errW_some] <;> rfl) | (simp [*, errW_none, errW_some] <;> rfl), bw2_ HB.out GE512.out GE513.out⟩
  ·rw [if_neg c13] at H
   have c13b0 : decide (t515 < 0) = false := decide_eq_false c13
   clear c13
   replace H := Option.bind_eq_some_iff.mp H
   obtain ⟨⟨t516, t517, t520, t523⟩, A210, H⟩ := H
   replace H : ((laws_toSystem.f k a1_0 l1_1 l1_2 l1_3).bind fun bt526 => ((spec_PairGrades.f k t516 t517 t520 t523 bt526.1 bt526.2.1 bt526.2.2.1 bt526.2.2.2 a2 a3).bind fun t536 => ((laws_toSystem.f k a0_0 l0_1 l0_2 l0_3).bind fun bt537 => ((laws_toSystem.f k a1_0 l1_1 l1_2 l1_3).bind fun bt548 => ((impl_PairGrades.f k bt537.1 bt537.2.1 bt537.2.2.1 bt537.2.2.2 bt548.1 bt548.2.1 bt548.2.2.1 bt548.2.2.2 a2 a3).bind fun t559 => (if t559 = t536 then ((laws_toSystem.f k a0_0 l0_1 l0_2 l0_3).bind fun bt560 => ((laws_eqSystem.f k bt537.1 bt537.2.1 bt537.2.2.1 bt537.2.2.2 bt560.1 bt560.2.1 bt560.2.2.1 bt560.2.2.2).bind fun t570 => (if t570 = true then ((laws_toSystem.f k a1_0 l1_1 l1_2 l1_3).bind fun bt571 => ((laws_eqSystem.f k bt548.1 bt548.2.1 bt548.2.2.1 bt548.2.2.2 bt571.1 bt571.2.1 bt571.2.2.1 bt571.2.2.2).bind fun t581 => (if t581 = true then (some true) else (some false)))) else (some false)))) else (some false))))))) = some r := H
   have A21 := sd_ A210
   clear A210
   replace H := Option.bind_eq_some_iff.mp H
   obtain ⟨⟨t526, t527, t530, t533⟩, A220, H⟩ := H
   replace H : ((spec_PairGrades.f k t516 t517 t520 t523 t526 t527 t530 t533 a2 a3).bind fun t536 => ((laws_toSystem.f k a0_0 l0_1 l0_2 l0_3).bind fun bt537 => ((laws_toSystem.f k a1_0 l1_1 l1_2 l1_3).bind fun bt548 => ((impl_PairGrades.f k bt537.1 bt537.2.1 bt537.2.2.1 bt537.2.2.2 bt548.1 bt548.2.1 bt548.2.2.1 bt548.2.2.2 a2 a3).bind fun t559 => (if t559 = t536 then ((laws_toSystem.f k a0_0 l0_1 l0_2 l0_3).bind fun bt560 => ((laws_eqSystem.f k bt537.1 bt537.2.1 bt537.2.2.1 bt537.2.2.2 bt560.1 bt560.2.1 bt560.2.2.1 bt560.2.2.2).bind fun t570 => (if t570 = true then ((laws_toSystem.f k a1_0 l1_1 l1_2 l1_3).bind fun bt571 => ((laws_eqSystem.f k bt548.1 bt548.2.1 bt548.2.2.1 bt548.2.2.2 bt571.1 bt571.2.1 bt571.2.2.1 bt571.2.2.2).bind fun t581 => (if t581 = true then (some true) else (some false)))) else (some false)))) else (some false)))))) = some r := H
   have A22 := sd_ A220
   clear A220
   replace H := Option.bind_eq_some_iff.mp H
   obtain ⟨t536, A230, H⟩ := H
   replace H : ((laws_toSystem.f k a0_0 l0_1 l0_2 l0_3).bind fun bt537 => ((laws_toSystem.f k a1_0 l1_1 l1_2 l1_3).bind fun bt548 => ((impl_PairGrades.f k bt537.1 bt537.2.1 bt537.2.2.1 bt537.2.2.2 bt548.1 bt548.2.1 bt548.2.2.1 bt548.2.2.2 a2 a3).bind fun t559 => (if t559 = t536 then ((laws_toSystem.f k a0_0 l0_1 l0_2 l0_3).bind fun bt560 => ((laws_eqSystem.f k bt537.1 bt537.2.1 bt537.2.2.1 bt537.2.2.2 bt560.1 bt560.2.1 bt560.2.2.1 bt560.2.2.2).bind fun t570 => (if t570 = true then ((laws_toSystem.f k a1_0 l1_1 l1_2 l1_3).bind fun bt571 => ((laws_eqSystem.f k bt548.1 bt548.2.1 bt548.2.2.1 bt548.2.2.2 bt571.1 bt571.2.1 bt571.2.2.1 bt571.2.2.2).bind fun t581 => (if t581 = true then (some true) else (some false)))) else (some false)))) else (some false))))) = some r := H
   have A23 := sd_ A230
   clear A230
   replace H := Option.bind_eq_some_iff.mp H
   obtain ⟨⟨t537, t538, t541, t544⟩, A240, H⟩ := H
   replace H : ((laws_toSystem.f k a1_0 l1_1 l1_2 l1_3).bind fun bt548 => ((impl_PairGrades.f k t537 t538 t541 t544 bt548.1 bt548.2.1 bt548.2.2.1 bt548.2.2.2 a2 a3).bind fun t559 => (if t559 = t536 then ((laws_toSystem.f k a0_0 l0_1 l0_2 l0_3).bind fun bt560 => ((laws_eqSystem.f k t537 t538 t541 t544 bt560.1 bt560.2.1 bt560.2.2.1 bt560.2.2.2).bind fun t570 => (if t570 = true then ((laws_toSystem.f k a1_0 l1_1 l1_2 l1_3).bind fun bt571 => ((laws_eqSystem.f k bt548.1 bt548.2.1 bt548.2.2.1 bt548.2.2.2 bt571.1 bt571.2.1 bt571.2.2.1 bt571.2.2.2).bind fun t581 => (if t581 = true then (some true) else (some false)))) else (some false)))) else (some false)))) = some r := H
   have A24 := sd_ A240
   clear A240
   replace H := Option.bind_eq_some_iff.mp H
   obtain ⟨⟨t548, t549, t552, t555⟩, A250, H⟩ := H
   replace H : ((impl_PairGrades.f k t537 t538 t541 t544 t548 t549 t552 t555 a2 a3).bind fun t559 => (if t559 = t536 then ((laws_toSystem.f k a0_0 l0_1 l0_2 l0_3).bind fun bt560 => ((laws_eqSystem.f k t537 t538 t541 t544 bt560.1 bt560.2.1 bt560.2.2.1 bt560.2.2.2).bind fun t570 => (if t570 = true then ((laws_toSystem.f k a1_0 l1_1 l1_2 l1_3).bind fun bt571 => ((laws_eqSystem.f k t548 t549 t552 t555 bt571.1 bt571.2.1 bt571.2.2.1 bt571.2.2.2).bind fun t581 => (if t581 = true then (some true) else (some false)))) else (some false)))) else (some false))) = some r := H
   have A25 := sd_ A250
   clear A250
   replace H := Option.bind_eq_some_iff.mp H
   obtain ⟨t559, A260, H⟩ := H
   replace H : (if t559 = t536 then ((laws_toSystem.f k a0_0 l0_1 l0_2 l0_3).bind fun bt560 => ((laws_eqSystem.f k t537 t538 t541 t544 bt560.1 bt560.2.1 bt560.2.2.1 bt560.2.2.2).bind fun t570 => (if t570 = true then ((laws_toSystem.f k a1_0 l1_1 l1_2 l1_3).bind fun bt571 => ((laws_eqSystem.f k t548 t549 t552 t555 bt571.1 bt571.2.1 bt571.2.2.1 bt571.2.2.2).bind fun t581 => (if t581 = true then (some true) else (some false)))) else (some false)))) else (some false)) = some r := H
   have A26 := sd_ A260
   clear A260
   by_cases c27 : t559 = t536
   ·rw [if_pos c27] at H
    have c27b0 : (t559 == t536) = true := beq_iff_eq.mpr c27
    have c27b1 : (t559 != t536) = false := bne_eq_false_iff_eq.mpr c27
    clear c27
    replace H := Option.bind_eq_some_iff.mp H
    obtain ⟨⟨t560, t561, t564, t567⟩, A280, H⟩ := H
    replace H : ((laws_eqSystem.f k t537 t538 t541 t544 t560 t561 t564 t567).bind fun t570 => (if t570 = true then ((laws_toSystem.f k a1_0 l1_1 l1_2 l1_3).bind fun bt571 => ((laws_eqSystem.f k t548 t549 t552 t555 bt571.1 bt571.2.1 bt571.2.2.1 bt571.2.2.2).bind fun t581 => (if t581 = true then (some true) else (some false)))) else (some false))) = some r := H
    have A28 := sd_ A280
    clear A280
    replace H := Option.bind_eq_some_iff.mp H
    obtain ⟨t570, A290, H⟩ := H
    replace H : (if t570 = true then ((laws_toSystem.f k a1_0 l1_1 l1_2 l1_3).bind fun bt571 => ((laws_eqSystem.f k t548 t549 t552 t555 bt571.1 bt571.2.1 bt571.2.2.1 bt571.2.2.2).bind fun t581 => (if t581 = true then (some true) else (some false)))) else (some false)) = some r := H
    have A29 := sd_ A290
    clear A290
    by_cases c30 : t570 = true
    ·subst c30
     have H1 : ((laws_toSystem.f k a1_0 l1_1 l1_2 l1_3).bind fun bt571 => ((laws_eqSystem.f k t548 t549 t552 t555 bt571.1 bt571.2.1 bt571.2.2.1 bt571.2.2.2).bind fun t581 => (if t581 = true then (some true) else (some false)))) = some r := by rw [if_pos rfl] at H; exact H
     clear H
     have H := H1
     clear H1
     replace H := Option.bind_eq_some_iff.mp H
     obtain ⟨⟨t571, t572, t575, t578⟩, A310, H⟩ := H
     replace H : ((laws_eqSystem.f k t548 t549 t552 t555 t571 t572 t575 t578).bind fun t581 => (if t581 = true then (some true) else (some false))) = some r := H
     have A31 := sd_ A310
     clear A310
     replace H := Option.bind_eq_some_iff.mp H
     obtain ⟨t581, A320, H⟩ := H
     replace H : (if t581 = true then (some true) else (some false)) = some r := H
     have A32 := sd_ A320
     clear A320
     by_cases c33 : t581 = true
     ·subst c33
      have H1 : (some true) = some r := by rw [if_pos rfl] at H; exact H
      clear H
      have H := H1
      clear H1
      obtain rfl := Option.some.inj H
      go_enter Try.func4, Try.ntmps4
      try go_wp2_with (first | ((with_reducible refine gate_dst (N := 4) rfl ?_); refine box_event ?hg (N := 4) ?hd (cs := #[.int .i64 a0_0, .slice A0_1 l0_1.length c0_1, .slice A0_2 l0_2.length c0_2, .slice A0_3 l0_3.length c0_3]) (t := 37) ?hr ?_; (case hd => rfl); (case hg => rfl); (case hr => first | (go_simp; done) | (go_simp; rfl)); intro gb512 hg w34 hbox hb; have BK512 := sd_ (hbox); have GW512 := sd_ ((by rw [hg]; exact (below_size (bw0_ HB.out)) : w.heap.size ≤ gb512)); have GE512 := sd_ ((by rw [hg]; exact (below_size (bw0_ HB.out)) : w.heap.size ≤ gb512)); replace HB := sd_ (below_step (bw0_ HB.out) hb); clear hb hbox hg) | ((with_reducible refine gate_dst (N := 5) rfl ?_); refine box_event ?hg (N := 5) ?hd (cs := #[.int .i64 a1_0, .slice A1_1 l1_1.length c1_1, .slice A1_2 l1_2.length c1_2, .slice A1_3 l1_3.length c1_3]) (t := 37) ?hr ?_; (case hd => rfl); (case hg => rfl); (case hr => first | (go_simp; done) | (go_simp; rfl)); intro gb513 hg w35 hbox hb; have BK513 := sd_ (hbox); have GW513 := sd_ ((by rw [hg]; exact (below_size (bw1_ HB.out GE512.out)) : w.heap.size ≤ gb513)); have GE513 := sd_ ((by rw [hg]; exact (below_size (bw1_ HB.out GE512.out)) : w.heap.size ≤ gb513)); replace HB := sd_ (below_step (bw1_ HB.out GE512.out) hb); have NB512_513 := sd_ ((by rw [hg]; exact Nat.ne_of_lt (bl_ BK512.out) : gb512 ≠ gb513)); have NB513_512 := sd_ ((by rw [hg]; exact Nat.ne_of_gt (bl_ BK512.out) : gb513 ≠ gb512)); replace BK512 := sd_ (bb_ BK512.out hb); clear hb hbox hg; have hnb36 := NB512_513.out; have hnc36 := NB513_512.out; have hcz37_0 : w35.cell? ⟨gb512, 0, none⟩ = some (.int .i64 a0_0) := (blk_cell BK512.out 0).trans rfl; have hcz37_1 : w35.cell? ⟨gb512, 1, none⟩ = some (.slice A0_1 l0_1.length c0_1) := (blk_cell BK512.out 1).trans rfl; have hcz37_2 : w35.cell? ⟨gb512, 2, none⟩ = some (.slice A0_2 l0_2.length c0_2) := (blk_cell BK512.out 2).trans rfl; have hcz37_3 : w35.cell? ⟨gb512, 3, none⟩ = some (.slice A0_3 l0_3.length c0_3) := (blk_cell BK512.out 3).trans rfl; have hfz37_0 := blk_frozen BK512.out 0; have hfz37_1 := blk_frozen BK512.out 1; have hfz37_2 := blk_frozen BK512.out 2; have hfz37_3 := blk_frozen BK512.out 3) | ((with_reducible refine gate_callee (f := 22) rfl ?_); refine goesL_ (some 16) rfl rfl Try.func22 (by kernel_rfl) rfl #[.agg #[.int .i64 a0_0, .slice A0_1 l0_1.length c0_1, .slice A0_2 l0_2.length c0_2, .slice A0_3 l0_3.length c0_3], .int .i64 1048576] rfl (by (try simp only [List.map_toArray, List.map_cons, List.map_nil]); first | done | rfl | (simp only [List.length_drop, List.length_take]; rfl)) ?_; (with_reducible refine (laws_szSystem.calls a0_0 _ _ l0_1 _ _ l0_2 _ _ l0_3 1048576 t514 _ ?side1 ?side2 ?side3 ?side4 ?side5 ?side6 A5.out).mono ?_); (case side1 => exact kc_ HR0_1.out HB.out); (case side2 => exact HC0_1.out); (case side3 => exact kc_ HR0_2.out HB.out); (case side4 => exact HC0_2.out); (case side5 => exact kc_ HR0_3.out HB.out); (case side6 => exact HC0_3.out); rintro e w38 ⟨rfl, hb⟩; refine ⟨_, rfl, ?_⟩; replace BK512 := sd_ (bb_ BK512.out hb); replace BK513 := sd_ (bb_ BK513.out hb); replace HB := sd_ (below_step (bw2_ HB.out GE512.out GE513.out) hb); (try clear hb); (try clear hb2); (try clear hk); (try clear hi); have hcz39_0 : w38.cell? ⟨gb513, 0, none⟩ = some (.int .i64 a1_0) := (blk_cell BK513.out 0).trans rfl; have hcz39_1 : w38.cell? ⟨gb513, 1, none⟩ = some (.slice A1_1 l1_1.length c1_1) := (blk_cell BK513.out 1).trans rfl; have hcz39_2 : w38.cell? ⟨gb513, 2, none⟩ = some (.slice A1_2 l1_2.length c1_2) := (blk_cell BK513.out 2).trans rfl; have hcz39_3 : w38.cell? ⟨gb513, 3, none⟩ = some (.slice A1_3 l1_3.length c1_3) := (blk_cell BK513.out 3).trans rfl; have hfz39_0 := blk_frozen BK513.out 0; have hfz39_1 := blk_frozen BK513.out 1; have hfz39_2 := blk_frozen BK513.out 2; have hfz39_3 := blk_frozen BK513.out 3) | ((with_reducible refine gate_callee (f := 22) rfl ?_); refine goesL_ (some 21) rfl rfl Try.func22 (by kernel_rfl) rfl #[.agg #[.int .i64 a1_0, .slice A1_1 l1_1.length c1_1, .slice A1_2 l1_2.length c1_2, .slice A1_3 l1_3.length c1_3], .int .i64 t514] rfl (by (try simp only [List.map_toArray, List.map_cons, List.map_nil]); first | done | rfl | (simp only [List.length_drop, List.length_take]; rfl)) ?_; (with_reducible refine (laws_szSystem.calls a1_0 _ _ l1_1 _ _ l1_2 _ _ l1_3 t514 t515 _ ?side1 ?side2 ?side3 ?side4 ?side5 ?side6 A12.out).mono ?_); (case side1 => exact kc_ HR1_1.out HB.out); (case side2 => exact HC1_1.out); (case side3 => exact kc_ HR1_2.out HB.out); (case side4 => exact HC1_2.out); (case side5 => exact kc_ HR1_3.out HB.out); (case side6 => exact HC1_3.out); rintro e w40 ⟨rfl, hb⟩; refine ⟨_, rfl, ?_⟩; replace BK512 := sd_ (bb_ BK512.out hb); replace BK513 := sd_ (bb_ BK513.out hb); replace HB := sd_ (below_step (bw2_ HB.out GE512.out GE513.out) hb); (try clear hb); (try clear hb2); (try clear hk); (try clear hi)))
      replace BK512 := sd_ (blk_drew BK512.out)
      replace BK513 := sd_ (blk_drew BK513.out)
      replace HB := sd_ (below_drew1 HB.out)
      refine start_ (n := 8) (S := fun w' => w'.cell? ⟨gb512, 0, none⟩ = some (.int .i64 a0_0) ∧ w'.cell? ⟨gb512, 1, none⟩ = some (.slice A0_1 l0_1.length c0_1) ∧ w'.cell? ⟨gb512, 2, none⟩ = some (.slice A0_2 l0_2.length c0_2) ∧ w'.cell? ⟨gb512, 3, none⟩ = some (.slice A0_3 l0_3.length c0_3) ∧ w'.cell? ⟨gb513, 0, none⟩ = some (.int .i64 a1_0) ∧ w'.cell? ⟨gb513, 1, none⟩ = some (.slice A1_1 l1_1.length c1_1) ∧ w'.cell? ⟨gb513, 2, none⟩ = some (.slice A1_2 l1_2.length c1_2) ∧ w'.cell? ⟨gb513, 3, none⟩ = some (.slice A1_3 l1_3.length c1_3)) (ds := []) #[false, false, false, false, false, false, false, false] (by kernel_rfl) rfl rfl ⟨(blk_cell BK512.out 0).trans rfl, (blk_cell BK512.out 1).trans rfl, (blk_cell BK512.out 2).trans rfl, (blk_cell BK512.out 3).trans rfl, (blk_cell BK513.out 0).trans rfl, (blk_cell BK513.out 1).trans rfl, (blk_cell BK513.out 2).trans rfl, (blk_cell BK513.out 3).trans rfl⟩ (fun hHeld => ?_); refine with_tabW laws_FnExactPairGrades.tab8 laws_FnExactPairGrades.bits8 (fun HT_ HW_ => ?_)
      generalize w40.drew = w41 at BK512 BK513 HB hHeld ⊢
      refine pure_ (i := 4) (N := some 28) (v := ?_) (a' := ?_) #[false, false, false, false, true, false, false, false] rfl rfl (any_of HT_.out (by kernel_rfl)) (fun _ _ _ h => h) (Or.inl ⟨by rfl, ?_⟩) ?_ ?_
      rotate_left
      ·intro w'
       go_simp
       with_reducible rfl
      rotate_left
      ·simp only [Act.put, List.setIfInBounds_toArray, List.set_cons_zero, List.set_cons_succ, i64_w, i32_w]
       rfl
      refine pure_ (i := 5) (N := some 29) (v := ?_) (a' := ?_) #[false, false, false, false, true, true, false, false] rfl rfl (any_of HT_.out (by kernel_rfl)) (fun _ _ _ h => h) (Or.inl ⟨by rfl, ?_⟩) ?_ ?_
      rotate_left
      ·intro w'
       go_simp
       with_reducible rfl
      rotate_left
      ·simp only [Act.put, List.setIfInBounds_toArray, List.set_cons_zero, List.set_cons_succ, i64_w, i32_w]
       rfl
      refine take_ (i := 0) (N := some 24) (v := ?_) (a' := ?_) #[true, false, false, false, true, true, false, false] rfl rfl (take_ofW HT_.out HW_.out (by kernel_rfl)) (fun _ _ _ h => h) (Or.inl ⟨by rfl, ?_⟩) hHeld ?_ ?_
      rotate_left
      ·rintro w' ⟨s0, s1, s2, s3, s4, s5, s6, s7⟩
       go_simp
       with_reducible rfl
      rotate_left
      ·simp only [Act.put, List.setIfInBounds_toArray, List.set_cons_zero, List.set_cons_succ, i64_w, i32_w]
       rfl
      refine take_ (i := 2) (N := some 26) (v := ?_) (a' := ?_) #[true, false, true, false, true, true, false, false] rfl rfl (take_ofW HT_.out HW_.out (by kernel_rfl)) (fun _ _ _ h => h) (Or.inl ⟨by rfl, ?_⟩) hHeld ?_ ?_
      rotate_left
      ·rintro w' ⟨s0, s1, s2, s3, s4, s5, s6, s7⟩
       go_simp
       with_reducible rfl
      rotate_left
      ·simp only [Act.put, List.setIfInBounds_toArray, List.set_cons_zero, List.set_cons_succ, i64_w, i32_w]
       rfl
      refine one_ (i := 1) (N := some 25) #[true, true, true, false, true, true, false, false] rfl rfl (one_of HT_.out (by kernel_rfl)) (by decide) (fun K hK => ?_)
      refine goes_ Try.func24 (by kernel_rfl) rfl #[.agg #[.int .i64 a0_0, .slice A0_1 l0_1.length c0_1, .slice A0_2 l0_2.length c0_2, .slice A0_3 l0_3.length c0_3]] (by rfl) rfl rfl (by (try simp only [List.map_toArray, List.map_cons, List.map_nil]); first | done | rfl | (simp only [List.length_drop, List.length_take]; rfl)) ?_
      with_reducible refine (laws_toSystem.calls k a0_0 _ _ l0_1 _ _ l0_2 _ _ l0_3 t516 t517 t520 t523 _ ?side1 ?side2 ?side3 ?side4 ?side5 ?side6 A21.out).mono ?_
      (case side1 => exact kc_ HR0_1.out HB.out)
      (case side2 => exact HC0_1.out)
      (case side3 => exact kc_ HR0_2.out HB.out)
      (case side4 => exact HC0_2.out)
      (case side5 => exact kc_ HR0_3.out HB.out)
      (case side6 => exact HC0_3.out)
      rintro e w42 ⟨v518, v521, v524, rfl, ho0, ho1, ho2, hb⟩
      refine ⟨_, rfl, ?_⟩
      have HO519 := sd_ (Kd.R_lower ho0 (below_size (bw2_ HB.out GE512.out GE513.out)))
      have HO522 := sd_ (Kd.R_lower ho1 (below_size (bw2_ HB.out GE512.out GE513.out)))
      have HO525 := sd_ (Kd.R_lower ho2 (below_size (bw2_ HB.out GE512.out GE513.out)))
      replace BK512 := sd_ (bb_ BK512.out hb)
      replace BK513 := sd_ (bb_ BK513.out hb)
      replace HB := sd_ (below_step (bw2_ HB.out GE512.out GE513.out) hb)
      (try clear hb)
      (try clear hb2)
      (try clear hk)
      (try clear hi)
      (try clear ho0)
      (try clear ho1)
      (try clear ho2)
      refine hK.out _ _ ⟨(blk_cell BK512.out 0).trans rfl, (blk_cell BK512.out 1).trans rfl, (blk_cell BK512.out 2).trans rfl, (blk_cell BK512.out 3).trans rfl, (blk_cell BK513.out 0).trans rfl, (blk_cell BK513.out 1).trans rfl, (blk_cell BK513.out 2).trans rfl, (blk_cell BK513.out 3).trans rfl⟩ (fun hHeld => ?_)
      clear hK K
      refine norm_ (a' := ?_) ?_ ?_
      rotate_left
      ·show Act.put _ (some 25) _ = _
       simp only [Act.put, List.setIfInBounds_toArray, List.set_cons_zero, List.set_cons_succ, i64_w, i32_w]
       rfl
      refine one_ (i := 3) (N := some 27) #[true, true, true, true, true, true, false, false] rfl rfl (one_of HT_.out (by kernel_rfl)) (by decide) (fun K hK => ?_)
      refine goes_ Try.func24 (by kernel_rfl) rfl #[.agg #[.int .i64 a1_0, .slice A1_1 l1_1.length c1_1, .slice A1_2 l1_2.length c1_2, .slice A1_3 l1_3.length c1_3]] (by rfl) rfl rfl (by (try simp only [List.map_toArray, List.map_cons, List.map_nil]); first | done | rfl | (simp only [List.length_drop, List.length_take]; rfl)) ?_
      with_reducible refine (laws_toSystem.calls k a1_0 _ _ l1_1 _ _ l1_2 _ _ l1_3 t526 t527 t530 t533 _ ?side1 ?side2 ?side3 ?side4 ?side5 ?side6 A22.out).mono ?_
      (case side1 => exact kc_ HR1_1.out HB.out)
      (case side2 => exact HC1_1.out)
      (case side3 => exact kc_ HR1_2.out HB.out)
      (case side4 => exact HC1_2.out)
      (case side5 => exact kc_ HR1_3.out HB.out)
      (case side6 => exact HC1_3.out)
      rintro e w43 ⟨v528, v531, v534, rfl, ho0, ho1, ho2, hb⟩
      refine ⟨_, rfl, ?_⟩
      have HO529 := sd_ (Kd.R_lower (Kd.R_new' (Kd.R_new' ho0 (Kd.R_lt (ro_ HO519.out))) (Kd.R_lt (ro_ HO522.out))) (below_size (bw2_ HB.out GE512.out GE513.out)))
      have HO532 := sd_ (Kd.R_lower (Kd.R_new' (Kd.R_new' ho1 (Kd.R_lt (ro_ HO519.out))) (Kd.R_lt (ro_ HO522.out))) (below_size (bw2_ HB.out GE512.out GE513.out)))
      replace HO519 := sd_ (Kd.R_mono (Kd.R_told (Kd.R_told (Kd.R_old (ro_ HO519.out) hb) (Kd.R_base ho0)) (Kd.R_base ho1)) (fun _ h_ => h_.1))
      replace HO522 := sd_ (Kd.R_mono (Kd.R_told (Kd.R_told (Kd.R_old (ro_ HO522.out) hb) (Kd.R_base ho0)) (Kd.R_base ho1)) (fun _ h_ => h_.1))
      have HO535 := sd_ (Kd.R_lower (Kd.R_new' ho2 (Kd.R_lt (ro_ HO525.out))) (below_size (bw2_ HB.out GE512.out GE513.out)))
      replace HO525 := sd_ (Kd.R_elder' (ro_ HO525.out) (Kd.R_base ho2) hb)
      replace BK512 := sd_ (bb_ BK512.out hb)
      replace BK513 := sd_ (bb_ BK513.out hb)
      replace HB := sd_ (below_step (bw2_ HB.out GE512.out GE513.out) hb)
      (try clear hb)
      (try clear hb2)
      (try clear hk)
      (try clear hi)
      (try clear ho0)
      (try clear ho1)
      (try clear ho2)
      obtain ⟨Ao44, co44, eo44⟩ := Kd.R_slice HO519.out
      (first | subst eo44 | (injection eo44 with f1_ f2_ f3_; have f4_ := f1_.symm; have f5_ := f3_.symm; clear f1_ f2_ f3_; subst f4_; subst f5_))
      obtain ⟨Ao45, co45, eo45⟩ := Kd.R_slice HO522.out
      (first | subst eo45 | (injection eo45 with f1_ f2_ f3_; have f4_ := f1_.symm; have f5_ := f3_.symm; clear f1_ f2_ f3_; subst f4_; subst f5_))
      obtain ⟨Ao46, co46, eo46⟩ := Kd.R_slice HO525.out
      (first | subst eo46 | (injection eo46 with f1_ f2_ f3_; have f4_ := f1_.symm; have f5_ := f3_.symm; clear f1_ f2_ f3_; subst f4_; subst f5_))
      obtain ⟨Ao47, co47, eo47⟩ := Kd.R_slice HO529.out
      (first | subst eo47 | (injection eo47 with f1_ f2_ f3_; have f4_ := f1_.symm; have f5_ := f3_.symm; clear f1_ f2_ f3_; subst f4_; subst f5_))
      obtain ⟨Ao48, co48, eo48⟩ := Kd.R_slice HO532.out
      (first | subst eo48 | (injection eo48 with f1_ f2_ f3_; have f4_ := f1_.symm; have f5_ := f3_.symm; clear f1_ f2_ f3_; subst f4_; subst f5_))
      obtain ⟨Ao49, co49, eo49⟩ := Kd.R_slice HO535.out
      (first | subst eo49 | (injection eo49 with f1_ f2_ f3_; have f4_ := f1_.symm; have f5_ := f3_.symm; clear f1_ f2_ f3_; subst f4_; subst f5_))
      refine hK.out _ _ ⟨(blk_cell BK512.out 0).trans rfl, (blk_cell BK512.out 1).trans rfl, (blk_cell BK512.out 2).trans rfl, (blk_cell BK512.out 3).trans rfl, (blk_cell BK513.out 0).trans rfl, (blk_cell BK513.out 1).trans rfl, (blk_cell BK513.out 2).trans rfl, (blk_cell BK513.out 3).trans rfl⟩ (fun hHeld => ?_)
      clear hK K
      refine norm_ (a' := ?_) ?_ ?_
      rotate_left
      ·show Act.put _ (some 27) _ = _
       simp only [Act.put, List.setIfInBounds_toArray, List.set_cons_zero, List.set_cons_succ, i64_w, i32_w]
       rfl
      refine one_ (i := 6) (N := some 30) #[true, true, true, true, true, true, true, false] rfl rfl (one_of HT_.out (by kernel_rfl)) (by decide) (fun K hK => ?_)
      refine goes_ Try.func23 (by kernel_rfl) rfl #[.agg #[.int .i64 t516, .slice Ao44 t517.length co44, .slice Ao45 t520.length co45, .slice Ao46 t523.length co46], .agg #[.int .i64 t526, .slice Ao47 t527.length co47, .slice Ao48 t530.length co48, .slice Ao49 t533.length co49], .int .i64 a2, .int .i64 a3] (by rfl) rfl rfl (by (try simp only [List.map_toArray, List.map_cons, List.map_nil]); first | done | rfl | (simp only [List.length_drop, List.length_take]; rfl)) ?_
      with_reducible refine (spec_PairGrades.calls k t516 _ _ t517 _ _ t520 _ _ t523 t526 _ _ t527 _ _ t530 _ _ t533 a2 a3 t536 _ ?side1 ?side2 ?side3 ?side4 ?side5 ?side6 ?side7 ?side8 ?side9 ?side10 ?side11 ?side12 A23.out).mono ?_
      (case side1 => exact kp_ (Kd.R_reads' HO519.out).2.2)
      (case side2 => exact (Kd.R_reads' HO519.out).2.1)
      (case side3 => exact kp_ (Kd.R_reads' HO522.out).2.2)
      (case side4 => exact (Kd.R_reads' HO522.out).2.1)
      (case side5 => exact kp_ (Kd.R_reads' HO525.out).2.2)
      (case side6 => exact (Kd.R_reads' HO525.out).2.1)
      (case side7 => exact kp_ (Kd.R_reads' HO529.out).2.2)
      (case side8 => exact (Kd.R_reads' HO529.out).2.1)
      (case side9 => exact kp_ (Kd.R_reads' HO532.out).2.2)
      (case side10 => exact (Kd.R_reads' HO532.out).2.1)
      (case side11 => exact kp_ (Kd.R_reads' HO535.out).2.2)
      (case side12 => exact (Kd.R_reads' HO535.out).2.1)
      rintro e w50 ⟨rfl, hb⟩
      refine ⟨_, rfl, ?_⟩
      replace HO519 := sd_ (Kd.R_below (ro_ HO519.out) hb)
      replace HO522 := sd_ (Kd.R_below (ro_ HO522.out) hb)
      replace HO525 := sd_ (Kd.R_below (ro_ HO525.out) hb)
      replace HO529 := sd_ (Kd.R_below (ro_ HO529.out) hb)
      replace HO532 := sd_ (Kd.R_below (ro_ HO532.out) hb)
      replace HO535 := sd_ (Kd.R_below (ro_ HO535.out) hb)
      replace BK512 := sd_ (bb_ BK512.out hb)
      replace BK513 := sd_ (bb_ BK513.out hb)
      replace HB := sd_ (below_step (bw2_ HB.out GE512.out GE513.out) hb)
      (try clear hb)
      (try clear hb2)
      (try clear hk)
      (try clear hi)
      refine hK.out _ _ ⟨(blk_cell BK512.out 0).trans rfl, (blk_cell BK512.out 1).trans rfl, (blk_cell BK512.out 2).trans rfl, (blk_cell BK512.out 3).trans rfl, (blk_cell BK513.out 0).trans rfl, (blk_cell BK513.out 1).trans rfl, (blk_cell BK513.out 2).trans rfl, (blk_cell BK513.out 3).trans rfl⟩ (fun hHeld => ?_)
      clear hK K
      refine norm_ (a' := ?_) ?_ ?_
      rotate_left
      ·show Act.put _ (some 30) _ = _
       simp only [Act.put, List.setIfInBounds_toArray, List.set_cons_zero, List.set_cons_succ, i64_w, i32_w]
       rfl
      refine pure_ (i := 7) (N := some 10) (v := ?_) (a' := ?_) #[true, true, true, true, true, true, true, true] rfl rfl (any_of HT_.out (by kernel_rfl)) (fun _ _ _ h => h) (Or.inl ⟨by rfl, ?_⟩) ?_ ?_
      rotate_left
      ·intro w'
       go_simp
       with_reducible rfl
      rotate_left
      ·simp only [Act.put, List.setIfInBounds_toArray, List.set_cons_zero, List.set_cons_succ, i64_w, i32_w]
       rfl
      refine done_ (done_of HT_.out (by kernel_rfl)) ?_
      have hcz51_0 : w50.cell? ⟨gb512, 0, none⟩ = some (.int .i64 a0_0) := (blk_cell BK512.out 0).trans rfl
      have hcz51_1 : w50.cell? ⟨gb512, 1, none⟩ = some (.slice A0_1 l0_1.length c0_1) := (blk_cell BK512.out 1).trans rfl
      have hcz51_2 : w50.cell? ⟨gb512, 2, none⟩ = some (.slice A0_2 l0_2.length c0_2) := (blk_cell BK512.out 2).trans rfl
      have hcz51_3 : w50.cell? ⟨gb512, 3, none⟩ = some (.slice A0_3 l0_3.length c0_3) := (blk_cell BK512.out 3).trans rfl
      have hfz51_0 := blk_frozen BK512.out 0
      have hfz51_1 := blk_frozen BK512.out 1
      have hfz51_2 := blk_frozen BK512.out 2
      have hfz51_3 := blk_frozen BK512.out 3
      try go_wp2_with (first | ((with_reducible refine gate_callee (f := 24) rfl ?_); refine goesL_ (some 32) rfl rfl Try.func24 (by kernel_rfl) rfl #[.agg #[.int .i64 a0_0, .slice A0_1 l0_1.length c0_1, .slice A0_2 l0_2.length c0_2, .slice A0_3 l0_3.length c0_3]] rfl (by (try simp only [List.map_toArray, List.map_cons, List.map_nil]); first | done | rfl | (simp only [List.length_drop, List.length_take]; rfl)) ?_; (with_reducible refine (laws_toSystem.calls k a0_0 _ _ l0_1 _ _ l0_2 _ _ l0_3 t537 t538 t541 t544 _ ?side1 ?side2 ?side3 ?side4 ?side5 ?side6 A24.out).mono ?_); (case side1 => exact kc_ HR0_1.out HB.out); (case side2 => exact HC0_1.out); (case side3 => exact kc_ HR0_2.out HB.out); (case side4 => exact HC0_2.out); (case side5 => exact kc_ HR0_3.out HB.out); (case side6 => exact HC0_3.out); rintro e w52 ⟨v539, v542, v545, rfl, ho0, ho1, ho2, hb⟩; refine ⟨_, rfl, ?_⟩; have HO540 := sd_ (Kd.R_lower (Kd.R_new' (Kd.R_new' (Kd.R_new' (Kd.R_new' ho0 (Kd.R_lt (ro_ HO519.out))) (Kd.R_lt (ro_ HO522.out))) (Kd.R_lt (ro_ HO529.out))) (Kd.R_lt (ro_ HO532.out))) (below_size (bw2_ HB.out GE512.out GE513.out))); have HO543 := sd_ (Kd.R_lower (Kd.R_new' (Kd.R_new' (Kd.R_new' (Kd.R_new' ho1 (Kd.R_lt (ro_ HO519.out))) (Kd.R_lt (ro_ HO522.out))) (Kd.R_lt (ro_ HO529.out))) (Kd.R_lt (ro_ HO532.out))) (below_size (bw2_ HB.out GE512.out GE513.out))); replace HO519 := sd_ (Kd.R_mono (Kd.R_told (Kd.R_told (Kd.R_old (ro_ HO519.out) hb) (Kd.R_base ho0)) (Kd.R_base ho1)) (fun _ h_ => h_.1)); replace HO522 := sd_ (Kd.R_mono (Kd.R_told (Kd.R_told (Kd.R_old (ro_ HO522.out) hb) (Kd.R_base ho0)) (Kd.R_base ho1)) (fun _ h_ => h_.1)); replace HO529 := sd_ (Kd.R_mono (Kd.R_told (Kd.R_told (Kd.R_old (ro_ HO529.out) hb) (Kd.R_base ho0)) (Kd.R_base ho1)) (fun _ h_ => h_.1)); replace HO532 := sd_ (Kd.R_mono (Kd.R_told (Kd.R_told (Kd.R_old (ro_ HO532.out) hb) (Kd.R_base ho0)) (Kd.R_base ho1)) (fun _ h_ => h_.1)); have HO546 := sd_ (Kd.R_lower (Kd.R_new' (Kd.R_new' ho2 (Kd.R_lt (ro_ HO525.out))) (Kd.R_lt (ro_ HO535.out))) (below_size (bw2_ HB.out GE512.out GE513.out))); replace HO525 := sd_ (Kd.R_elder' (ro_ HO525.out) (Kd.R_base ho2) hb); replace HO535 := sd_ (Kd.R_elder' (ro_ HO535.out) (Kd.R_base ho2) hb); replace BK512 := sd_ (bb_ BK512.out hb); replace BK513 := sd_ (bb_ BK513.out hb); replace HB := sd_ (below_step (bw2_ HB.out GE512.out GE513.out) hb); (try clear hb); (try clear hb2); (try clear hk); (try clear hi); (try clear ho0); (try clear ho1); (try clear ho2)) | ((with_reducible refine gate_dst (N := 11) rfl ?_); refine box_event ?hg (N := 11) ?hd (cs := #[.int .i64 0, .slice none 0 0, .slice none 0 0, .slice none 0 0]) (t := 27) ?hr ?_; (case hd => rfl); (case hg => rfl); (case hr => first | (go_simp; done) | (go_simp; rfl)); intro gb547 hg w53 hbox hb; replace HO519 := sd_ (Kd.R_below (ro_ HO519.out) hb); replace HO522 := sd_ (Kd.R_below (ro_ HO522.out) hb); replace HO525 := sd_ (Kd.R_below (ro_ HO525.out) hb); replace HO529 := sd_ (Kd.R_below (ro_ HO529.out) hb); replace HO532 := sd_ (Kd.R_below (ro_ HO532.out) hb); replace HO535 := sd_ (Kd.R_below (ro_ HO535.out) hb); replace HO540 := sd_ (Kd.R_below (ro_ HO540.out) hb); replace HO543 := sd_ (Kd.R_below (ro_ HO543.out) hb); replace HO546 := sd_ (Kd.R_below (ro_ HO546.out) hb); have BK547 := sd_ (hbox); have GW547 := sd_ ((by rw [hg]; exact (below_size (bw2_ HB.out GE512.out GE513.out)) : w.heap.size ≤ gb547)); have GE547 := sd_ ((by rw [hg]; exact (below_size (bw2_ HB.out GE512.out GE513.out)) : w.heap.size ≤ gb547)); replace HB := sd_ (below_step (bw2_ HB.out GE512.out GE513.out) hb); have NB512_547 := sd_ ((by rw [hg]; exact Nat.ne_of_lt (bl_ BK512.out) : gb512 ≠ gb547)); have NB547_512 := sd_ ((by rw [hg]; exact Nat.ne_of_gt (bl_ BK512.out) : gb547 ≠ gb512)); replace BK512 := sd_ (bb_ BK512.out hb); have NB513_547 := sd_ ((by rw [hg]; exact Nat.ne_of_lt (bl_ BK513.out) : gb513 ≠ gb547)); have NB547_513 := sd_ ((by rw [hg]; exact Nat.ne_of_gt (bl_ BK513.out) : gb547 ≠ gb513)); replace BK513 := sd_ (bb_ BK513.out hb); clear hb hbox hg; have hnb54 := NB547_512.out; have hnc54 := NB512_547.out; have hnb55 := NB547_513.out; have hnc55 := NB513_547.out; have hcz56_0 : w53.cell? ⟨gb547, 0, none⟩ = some (.int .i64 0) := (blk_cell BK547.out 0).trans rfl; have hcz56_1 : w53.cell? ⟨gb547, 1, none⟩ = some (.slice none 0 0) := (blk_cell BK547.out 1).trans rfl; have hcz56_2 : w53.cell? ⟨gb547, 2, none⟩ = some (.slice none 0 0) := (blk_cell BK547.out 2).trans rfl; have hcz56_3 : w53.cell? ⟨gb547, 3, none⟩ = some (.slice none 0 0) := (blk_cell BK547.out 3).trans rfl; have hfz56_0 := blk_frozen BK547.out 0; have hfz56_1 := blk_frozen BK547.out 1; have hfz56_2 := blk_frozen BK547.out 2; have hfz56_3 := blk_frozen BK547.out 3; obtain ⟨Ao57, co57, eo57⟩ := Kd.R_slice HO540.out; subst eo57; obtain ⟨Ao58, co58, eo58⟩ := Kd.R_slice HO543.out; subst eo58; obtain ⟨Ao59, co59, eo59⟩ := Kd.R_slice HO546.out; subst eo59; have hcz60_0 : w53.cell? ⟨gb513, 0, none⟩ = some (.int .i64 a1_0) := (blk_cell BK513.out 0).trans rfl; have hcz60_1 : w53.cell? ⟨gb513, 1, none⟩ = some (.slice A1_1 l1_1.length c1_1) := (blk_cell BK513.out 1).trans rfl; have hcz60_2 : w53.cell? ⟨gb513, 2, none⟩ = some (.slice A1_2 l1_2.length c1_2) := (blk_cell BK513.out 2).trans rfl; have hcz60_3 : w53.cell? ⟨gb513, 3, none⟩ = some (.slice A1_3 l1_3.length c1_3) := (blk_cell BK513.out 3).trans rfl; have hfz60_0 := blk_frozen BK513.out 0; have hfz60_1 := blk_frozen BK513.out 1; have hfz60_2 := blk_frozen BK513.out 2; have hfz60_3 := blk_frozen BK513.out 3) | ((with_reducible refine gate_callee (f := 24) rfl ?_); refine goesL_ (some 34) rfl rfl Try.func24 (by kernel_rfl) rfl #[.agg #[.int .i64 a1_0, .slice A1_1 l1_1.length c1_1, .slice A1_2 l1_2.length c1_2, .slice A1_3 l1_3.length c1_3]] rfl (by (try simp only [List.map_toArray, List.map_cons, List.map_nil]); first | done | rfl | (simp only [List.length_drop, List.length_take]; rfl)) ?_; (with_reducible refine (laws_toSystem.calls k a1_0 _ _ l1_1 _ _ l1_2 _ _ l1_3 t548 t549 t552 t555 _ ?side1 ?side2 ?side3 ?side4 ?side5 ?side6 A25.out).mono ?_); (case side1 => exact Kd.C_below HR1_1.out (bw3_ HB.out GE512.out GE513.out GE547.out)); (case side2 => exact HC1_1.out); (case side3 => exact Kd.C_below HR1_2.out (bw3_ HB.out GE512.out GE513.out GE547.out)); (case side4 => exact HC1_2.out); (case side5 => exact Kd.C_below HR1_3.out (bw3_ HB.out GE512.out GE513.out GE547.out)); (case side6 => exact HC1_3.out); rintro e w61 ⟨v550, v553, v556, rfl, ho0, ho1, ho2, hb⟩; refine ⟨_, rfl, ?_⟩; have HO551 := sd_ (Kd.R_lower (Kd.R_new' (Kd.R_new' (Kd.R_new' (Kd.R_new' (Kd.R_new' (Kd.R_new' ho0 (Kd.R_lt (by (with_reducible repeat (first | apply Kd.R_alloc | apply Kd.R_drewN | apply Kd.R_drew)); exact (Kd.R_mono (Kd.R_far (p := ⟨gb547, 3, none⟩) (Kd.R_far (p := ⟨gb547, 2, none⟩) (Kd.R_far (p := ⟨gb547, 1, none⟩) (Kd.R_far (p := ⟨gb547, 0, none⟩) (Kd.R_types HO519.out BK547.out (by decide)) (fun _ hk => hk.2) (.int .i64 t537)) (fun _ hk => hk.2) (.slice Ao57 t538.length co57)) (fun _ hk => hk.2) (.slice Ao58 t541.length co58)) (fun _ hk => hk.2) (.slice Ao59 t544.length co59)) (fun _ h_ => h_.1))))) (Kd.R_lt (by (with_reducible repeat (first | apply Kd.R_alloc | apply Kd.R_drewN | apply Kd.R_drew)); exact (Kd.R_mono (Kd.R_far (p := ⟨gb547, 3, none⟩) (Kd.R_far (p := ⟨gb547, 2, none⟩) (Kd.R_far (p := ⟨gb547, 1, none⟩) (Kd.R_far (p := ⟨gb547, 0, none⟩) (Kd.R_types HO522.out BK547.out (by decide)) (fun _ hk => hk.2) (.int .i64 t537)) (fun _ hk => hk.2) (.slice Ao57 t538.length co57)) (fun _ hk => hk.2) (.slice Ao58 t541.length co58)) (fun _ hk => hk.2) (.slice Ao59 t544.length co59)) (fun _ h_ => h_.1))))) (Kd.R_lt (by (with_reducible repeat (first | apply Kd.R_alloc | apply Kd.R_drewN | apply Kd.R_drew)); exact (Kd.R_mono (Kd.R_far (p := ⟨gb547, 3, none⟩) (Kd.R_far (p := ⟨gb547, 2, none⟩) (Kd.R_far (p := ⟨gb547, 1, none⟩) (Kd.R_far (p := ⟨gb547, 0, none⟩) (Kd.R_types HO529.out BK547.out (by decide)) (fun _ hk => hk.2) (.int .i64 t537)) (fun _ hk => hk.2) (.slice Ao57 t538.length co57)) (fun _ hk => hk.2) (.slice Ao58 t541.length co58)) (fun _ hk => hk.2) (.slice Ao59 t544.length co59)) (fun _ h_ => h_.1))))) (Kd.R_lt (by (with_reducible repeat (first | apply Kd.R_alloc | apply Kd.R_drewN | apply Kd.R_drew)); exact (Kd.R_mono (Kd.R_far (p := ⟨gb547, 3, none⟩) (Kd.R_far (p := ⟨gb547, 2, none⟩) (Kd.R_far (p := ⟨gb547, 1, none⟩) (Kd.R_far (p := ⟨gb547, 0, none⟩) (Kd.R_types HO532.out BK547.out (by decide)) (fun _ hk => hk.2) (.int .i64 t537)) (fun _ hk => hk.2) (.slice Ao57 t538.length co57)) (fun _ hk => hk.2) (.slice Ao58 t541.length co58)) (fun _ hk => hk.2) (.slice Ao59 t544.length co59)) (fun _ h_ => h_.1))))) (Kd.R_lt (by (with_reducible repeat (first | apply Kd.R_alloc | apply Kd.R_drewN | apply Kd.R_drew)); exact (Kd.R_mono (Kd.R_far (p := ⟨gb547, 3, none⟩) (Kd.R_far (p := ⟨gb547, 2, none⟩) (Kd.R_far (p := ⟨gb547, 1, none⟩) (Kd.R_far (p := ⟨gb547, 0, none⟩) (Kd.R_types HO540.out BK547.out (by decide)) (fun _ hk => hk.2) (.int .i64 t537)) (fun _ hk => hk.2) (.slice Ao57 t538.length co57)) (fun _ hk => hk.2) (.slice Ao58 t541.length co58)) (fun _ hk => hk.2) (.slice Ao59 t544.length co59)) (fun _ h_ => h_.1))))) (Kd.R_lt (by (with_reducible repeat (first | apply Kd.R_alloc | apply Kd.R_drewN | apply Kd.R_drew)); exact (Kd.R_mono (Kd.R_far (p := ⟨gb547, 3, none⟩) (Kd.R_far (p := ⟨gb547, 2, none⟩) (Kd.R_far (p := ⟨gb547, 1, none⟩) (Kd.R_far (p := ⟨gb547, 0, none⟩) (Kd.R_types HO543.out BK547.out (by decide)) (fun _ hk => hk.2) (.int .i64 t537)) (fun _ hk => hk.2) (.slice Ao57 t538.length co57)) (fun _ hk => hk.2) (.slice Ao58 t541.length co58)) (fun _ hk => hk.2) (.slice Ao59 t544.length co59)) (fun _ h_ => h_.1))))) (below_size (bw3_ HB.out GE512.out GE513.out GE547.out))); have HO554 := sd_ (Kd.R_lower (Kd.R_new' (Kd.R_new' (Kd.R_new' (Kd.R_new' (Kd.R_new' (Kd.R_new' ho1 (Kd.R_lt (by (with_reducible repeat (first | apply Kd.R_alloc | apply Kd.R_drewN | apply Kd.R_drew)); exact (Kd.R_mono (Kd.R_far (p := ⟨gb547, 3, none⟩) (Kd.R_far (p := ⟨gb547, 2, none⟩) (Kd.R_far (p := ⟨gb547, 1, none⟩) (Kd.R_far (p := ⟨gb547, 0, none⟩) (Kd.R_types HO519.out BK547.out (by decide)) (fun _ hk => hk.2) (.int .i64 t537)) (fun _ hk => hk.2) (.slice Ao57 t538.length co57)) (fun _ hk => hk.2) (.slice Ao58 t541.length co58)) (fun _ hk => hk.2) (.slice Ao59 t544.length co59)) (fun _ h_ => h_.1))))) (Kd.R_lt (by (with_reducible repeat (first | apply Kd.R_alloc | apply Kd.R_drewN | apply Kd.R_drew)); exact (Kd.R_mono (Kd.R_far (p := ⟨gb547, 3, none⟩) (Kd.R_far (p := ⟨gb547, 2, none⟩) (Kd.R_far (p := ⟨gb547, 1, none⟩) (Kd.R_far (p := ⟨gb547, 0, none⟩) (Kd.R_types HO522.out BK547.out (by decide)) (fun _ hk => hk.2) (.int .i64 t537)) (fun _ hk => hk.2) (.slice Ao57 t538.length co57)) (fun _ hk => hk.2) (.slice Ao58 t541.length co58)) (fun _ hk => hk.2) (.slice Ao59 t544.length co59)) (fun _ h_ => h_.1))))) (Kd.R_lt (by (with_reducible repeat (first | apply Kd.R_alloc | apply Kd.R_drewN | apply Kd.R_drew)); exact (Kd.R_mono (Kd.R_far (p := ⟨gb547, 3, none⟩) (Kd.R_far (p := ⟨gb547, 2, none⟩) (Kd.R_far (p := ⟨gb547, 1, none⟩) (Kd.R_far (p := ⟨gb547, 0, none⟩) (Kd.R_types HO529.out BK547.out (by decide)) (fun _ hk => hk.2) (.int .i64 t537)) (fun _ hk => hk.2) (.slice Ao57 t538.length co57)) (fun _ hk => hk.2) (.slice Ao58 t541.length co58)) (fun _ hk => hk.2) (.slice Ao59 t544.length co59)) (fun _ h_ => h_.1))))) (Kd.R_lt (by (with_reducible repeat (first | apply Kd.R_alloc | apply Kd.R_drewN | apply Kd.R_drew)); exact (Kd.R_mono (Kd.R_far (p := ⟨gb547, 3, none⟩) (Kd.R_far (p := ⟨gb547, 2, none⟩) (Kd.R_far (p := ⟨gb547, 1, none⟩) (Kd.R_far (p := ⟨gb547, 0, none⟩) (Kd.R_types HO532.out BK547.out (by decide)) (fun _ hk => hk.2) (.int .i64 t537)) (fun _ hk => hk.2) (.slice Ao57 t538.length co57)) (fun _ hk => hk.2) (.slice Ao58 t541.length co58)) (fun _ hk => hk.2) (.slice Ao59 t544.length co59)) (fun _ h_ => h_.1))))) (Kd.R_lt (by (with_reducible repeat (first | apply Kd.R_alloc | apply Kd.R_drewN | apply Kd.R_drew)); exact (Kd.R_mono (Kd.R_far (p := ⟨gb547, 3, none⟩) (Kd.R_far (p := ⟨gb547, 2, none⟩) (Kd.R_far (p := ⟨gb547, 1, none⟩) (Kd.R_far (p := ⟨gb547, 0, none⟩) (Kd.R_types HO540.out BK547.out (by decide)) (fun _ hk => hk.2) (.int .i64 t537)) (fun _ hk => hk.2) (.slice Ao57 t538.length co57)) (fun _ hk => hk.2) (.slice Ao58 t541.length co58)) (fun _ hk => hk.2) (.slice Ao59 t544.length co59)) (fun _ h_ => h_.1))))) (Kd.R_lt (by (with_reducible repeat (first | apply Kd.R_alloc | apply Kd.R_drewN | apply Kd.R_drew)); exact (Kd.R_mono (Kd.R_far (p := ⟨gb547, 3, none⟩) (Kd.R_far (p := ⟨gb547, 2, none⟩) (Kd.R_far (p := ⟨gb547, 1, none⟩) (Kd.R_far (p := ⟨gb547, 0, none⟩) (Kd.R_types HO543.out BK547.out (by decide)) (fun _ hk => hk.2) (.int .i64 t537)) (fun _ hk => hk.2) (.slice Ao57 t538.length co57)) (fun _ hk => hk.2) (.slice Ao58 t541.length co58)) (fun _ hk => hk.2) (.slice Ao59 t544.length co59)) (fun _ h_ => h_.1))))) (below_size (bw3_ HB.out GE512.out GE513.out GE547.out))); replace HO519 := sd_ (Kd.R_mono (Kd.R_told (Kd.R_told (Kd.R_old (by (with_reducible repeat (first | apply Kd.R_alloc | apply Kd.R_drewN | apply Kd.R_drew)); exact (Kd.R_mono (Kd.R_far (p := ⟨gb547, 3, none⟩) (Kd.R_far (p := ⟨gb547, 2, none⟩) (Kd.R_far (p := ⟨gb547, 1, none⟩) (Kd.R_far (p := ⟨gb547, 0, none⟩) (Kd.R_types HO519.out BK547.out (by decide)) (fun _ hk => hk.2) (.int .i64 t537)) (fun _ hk => hk.2) (.slice Ao57 t538.length co57)) (fun _ hk => hk.2) (.slice Ao58 t541.length co58)) (fun _ hk => hk.2) (.slice Ao59 t544.length co59)) (fun _ h_ => h_.1))) hb) (Kd.R_base ho0)) (Kd.R_base ho1)) (fun _ h_ => h_.1)); replace HO522 := sd_ (Kd.R_mono (Kd.R_told (Kd.R_told (Kd.R_old (by (with_reducible repeat (first | apply Kd.R_alloc | apply Kd.R_drewN | apply Kd.R_drew)); exact (Kd.R_mono (Kd.R_far (p := ⟨gb547, 3, none⟩) (Kd.R_far (p := ⟨gb547, 2, none⟩) (Kd.R_far (p := ⟨gb547, 1, none⟩) (Kd.R_far (p := ⟨gb547, 0, none⟩) (Kd.R_types HO522.out BK547.out (by decide)) (fun _ hk => hk.2) (.int .i64 t537)) (fun _ hk => hk.2) (.slice Ao57 t538.length co57)) (fun _ hk => hk.2) (.slice Ao58 t541.length co58)) (fun _ hk => hk.2) (.slice Ao59 t544.length co59)) (fun _ h_ => h_.1))) hb) (Kd.R_base ho0)) (Kd.R_base ho1)) (fun _ h_ => h_.1)); replace HO529 := sd_ (Kd.R_mono (Kd.R_told (Kd.R_told (Kd.R_old (by (with_reducible repeat (first | apply Kd.R_alloc | apply Kd.R_drewN | apply Kd.R_drew)); exact (Kd.R_mono (Kd.R_far (p := ⟨gb547, 3, none⟩) (Kd.R_far (p := ⟨gb547, 2, none⟩) (Kd.R_far (p := ⟨gb547, 1, none⟩) (Kd.R_far (p := ⟨gb547, 0, none⟩) (Kd.R_types HO529.out BK547.out (by decide)) (fun _ hk => hk.2) (.int .i64 t537)) (fun _ hk => hk.2) (.slice Ao57 t538.length co57)) (fun _ hk => hk.2) (.slice Ao58 t541.length co58)) (fun _ hk => hk.2) (.slice Ao59 t544.length co59)) (fun _ h_ => h_.1))) hb) (Kd.R_base ho0)) (Kd.R_base ho1)) (fun _ h_ => h_.1)); replace HO532 := sd_ (Kd.R_mono (Kd.R_told (Kd.R_told (Kd.R_old (by (with_reducible repeat (first | apply Kd.R_alloc | apply Kd.R_drewN | apply Kd.R_drew)); exact (Kd.R_mono (Kd.R_far (p := ⟨gb547, 3, none⟩) (Kd.R_far (p := ⟨gb547, 2, none⟩) (Kd.R_far (p := ⟨gb547, 1, none⟩) (Kd.R_far (p := ⟨gb547, 0, none⟩) (Kd.R_types HO532.out BK547.out (by decide)) (fun _ hk => hk.2) (.int .i64 t537)) (fun _ hk => hk.2) (.slice Ao57 t538.length co57)) (fun _ hk => hk.2) (.slice Ao58 t541.length co58)) (fun _ hk => hk.2) (.slice Ao59 t544.length co59)) (fun _ h_ => h_.1))) hb) (Kd.R_base ho0)) (Kd.R_base ho1)) (fun _ h_ => h_.1)); replace HO540 := sd_ (Kd.R_mono (Kd.R_told (Kd.R_told (Kd.R_old (by (with_reducible repeat (first | apply Kd.R_alloc | apply Kd.R_drewN | apply Kd.R_drew)); exact (Kd.R_mono (Kd.R_far (p := ⟨gb547, 3, none⟩) (Kd.R_far (p := ⟨gb547, 2, none⟩) (Kd.R_far (p := ⟨gb547, 1, none⟩) (Kd.R_far (p := ⟨gb547, 0, none⟩) (Kd.R_types HO540.out BK547.out (by decide)) (fun _ hk => hk.2) (.int .i64 t537)) (fun _ hk => hk.2) (.slice Ao57 t538.length co57)) (fun _ hk => hk.2) (.slice Ao58 t541.length co58)) (fun _ hk => hk.2) (.slice Ao59 t544.length co59)) (fun _ h_ => h_.1))) hb) (Kd.R_base ho0)) (Kd.R_base ho1)) (fun _ h_ => h_.1)); replace HO543 := sd_ (Kd.R_mono (Kd.R_told (Kd.R_told (Kd.R_old (by (with_reducible repeat (first | apply Kd.R_alloc | apply Kd.R_drewN | apply Kd.R_drew)); exact (Kd.R_mono (Kd.R_far (p := ⟨gb547, 3, none⟩) (Kd.R_far (p := ⟨gb547, 2, none⟩) (Kd.R_far (p := ⟨gb547, 1, none⟩) (Kd.R_far (p := ⟨gb547, 0, none⟩) (Kd.R_types HO543.out BK547.out (by decide)) (fun _ hk => hk.2) (.int .i64 t537)) (fun _ hk => hk.2) (.slice Ao57 t538.length co57)) (fun _ hk => hk.2) (.slice Ao58 t541.length co58)) (fun _ hk => hk.2) (.slice Ao59 t544.length co59)) (fun _ h_ => h_.1))) hb) (Kd.R_base ho0)) (Kd.R_base ho1)) (fun _ h_ => h_.1)); have HO557 := sd_ (Kd.R_lower (Kd.R_new' (Kd.R_new' (Kd.R_new' ho2 (Kd.R_lt (by (with_reducible repeat (first | apply Kd.R_alloc | apply Kd.R_drewN | apply Kd.R_drew)); exact (Kd.R_mono (Kd.R_far (p := ⟨gb547, 3, none⟩) (Kd.R_far (p := ⟨gb547, 2, none⟩) (Kd.R_far (p := ⟨gb547, 1, none⟩) (Kd.R_far (p := ⟨gb547, 0, none⟩) (Kd.R_types HO525.out BK547.out (by decide)) (fun _ hk => hk.2) (.int .i64 t537)) (fun _ hk => hk.2) (.slice Ao57 t538.length co57)) (fun _ hk => hk.2) (.slice Ao58 t541.length co58)) (fun _ hk => hk.2) (.slice Ao59 t544.length co59)) (fun _ h_ => h_.1))))) (Kd.R_lt (by (with_reducible repeat (first | apply Kd.R_alloc | apply Kd.R_drewN | apply Kd.R_drew)); exact (Kd.R_mono (Kd.R_far (p := ⟨gb547, 3, none⟩) (Kd.R_far (p := ⟨gb547, 2, none⟩) (Kd.R_far (p := ⟨gb547, 1, none⟩) (Kd.R_far (p := ⟨gb547, 0, none⟩) (Kd.R_types HO535.out BK547.out (by decide)) (fun _ hk => hk.2) (.int .i64 t537)) (fun _ hk => hk.2) (.slice Ao57 t538.length co57)) (fun _ hk => hk.2) (.slice Ao58 t541.length co58)) (fun _ hk => hk.2) (.slice Ao59 t544.length co59)) (fun _ h_ => h_.1))))) (Kd.R_lt (by (with_reducible repeat (first | apply Kd.R_alloc | apply Kd.R_drewN | apply Kd.R_drew)); exact (Kd.R_mono (Kd.R_far (p := ⟨gb547, 3, none⟩) (Kd.R_far (p := ⟨gb547, 2, none⟩) (Kd.R_far (p := ⟨gb547, 1, none⟩) (Kd.R_far (p := ⟨gb547, 0, none⟩) (Kd.R_types HO546.out BK547.out (by decide)) (fun _ hk => hk.2) (.int .i64 t537)) (fun _ hk => hk.2) (.slice Ao57 t538.length co57)) (fun _ hk => hk.2) (.slice Ao58 t541.length co58)) (fun _ hk => hk.2) (.slice Ao59 t544.length co59)) (fun _ h_ => h_.1))))) (below_size (bw3_ HB.out GE512.out GE513.out GE547.out))); replace HO525 := sd_ (Kd.R_elder' (by (with_reducible repeat (first | apply Kd.R_alloc | apply Kd.R_drewN | apply Kd.R_drew)); exact (Kd.R_mono (Kd.R_far (p := ⟨gb547, 3, none⟩) (Kd.R_far (p := ⟨gb547, 2, none⟩) (Kd.R_far (p := ⟨gb547, 1, none⟩) (Kd.R_far (p := ⟨gb547, 0, none⟩) (Kd.R_types HO525.out BK547.out (by decide)) (fun _ hk => hk.2) (.int .i64 t537)) (fun _ hk => hk.2) (.slice Ao57 t538.length co57)) (fun _ hk => hk.2) (.slice Ao58 t541.length co58)) (fun _ hk => hk.2) (.slice Ao59 t544.length co59)) (fun _ h_ => h_.1))) (Kd.R_base ho2) hb); replace HO535 := sd_ (Kd.R_elder' (by (with_reducible repeat (first | apply Kd.R_alloc | apply Kd.R_drewN | apply Kd.R_drew)); exact (Kd.R_mono (Kd.R_far (p := ⟨gb547, 3, none⟩) (Kd.R_far (p := ⟨gb547, 2, none⟩) (Kd.R_far (p := ⟨gb547, 1, none⟩) (Kd.R_far (p := ⟨gb547, 0, none⟩) (Kd.R_types HO535.out BK547.out (by decide)) (fun _ hk => hk.2) (.int .i64 t537)) (fun _ hk => hk.2) (.slice Ao57 t538.length co57)) (fun _ hk => hk.2) (.slice Ao58 t541.length co58)) (fun _ hk => hk.2) (.slice Ao59 t544.length co59)) (fun _ h_ => h_.1))) (Kd.R_base ho2) hb); replace HO546 := sd_ (Kd.R_elder' (by (with_reducible repeat (first | apply Kd.R_alloc | apply Kd.R_drewN | apply Kd.R_drew)); exact (Kd.R_mono (Kd.R_far (p := ⟨gb547, 3, none⟩) (Kd.R_far (p := ⟨gb547, 2, none⟩) (Kd.R_far (p := ⟨gb547, 1, none⟩) (Kd.R_far (p := ⟨gb547, 0, none⟩) (Kd.R_types HO546.out BK547.out (by decide)) (fun _ hk => hk.2) (.int .i64 t537)) (fun _ hk => hk.2) (.slice Ao57 t538.length co57)) (fun _ hk => hk.2) (.slice Ao58 t541.length co58)) (fun _ hk => hk.2) (.slice Ao59 t544.length co59)) (fun _ h_ => h_.1))) (Kd.R_base ho2) hb); replace BK512 := sd_ (blk_below (g := gb512) (o := .cells #[.int .i64 a0_0, .slice A0_1 l0_1.length c0_1, .slice A0_2 l0_2.length c0_2, .slice A0_3 l0_3.length c0_3] 37 (0, 0)) (by (with_reducible repeat (first | refine blk_drewN ?_ _ | refine blk_drew ?_ | refine blk_alloc ?_ _)); refine blk_far ?_ NB512_547.out _; (with_reducible repeat (first | refine blk_drewN ?_ _ | refine blk_drew ?_ | refine blk_alloc ?_ _)); refine blk_far ?_ NB512_547.out _; (with_reducible repeat (first | refine blk_drewN ?_ _ | refine blk_drew ?_ | refine blk_alloc ?_ _)); refine blk_far ?_ NB512_547.out _; (with_reducible repeat (first | refine blk_drewN ?_ _ | refine blk_drew ?_ | refine blk_alloc ?_ _)); refine blk_far ?_ NB512_547.out _; (with_reducible repeat (first | refine blk_drewN ?_ _ | refine blk_drew ?_ | refine blk_alloc ?_ _)); exact BK512.out) hb); replace BK513 := sd_ (blk_below (g := gb513) (o := .cells #[.int .i64 a1_0, .slice A1_1 l1_1.length c1_1, .slice A1_2 l1_2.length c1_2, .slice A1_3 l1_3.length c1_3] 37 (0, 0)) (by (with_reducible repeat (first | refine blk_drewN ?_ _ | refine blk_drew ?_ | refine blk_alloc ?_ _)); refine blk_far ?_ NB513_547.out _; (with_reducible repeat (first | refine blk_drewN ?_ _ | refine blk_drew ?_ | refine blk_alloc ?_ _)); refine blk_far ?_ NB513_547.out _; (with_reducible repeat (first | refine blk_drewN ?_ _ | refine blk_drew ?_ | refine blk_alloc ?_ _)); refine blk_far ?_ NB513_547.out _; (with_reducible repeat (first | refine blk_drewN ?_ _ | refine blk_drew ?_ | refine blk_alloc ?_ _)); refine blk_far ?_ NB513_547.out _; (with_reducible repeat (first | refine blk_drewN ?_ _ | refine blk_drew ?_ | refine blk_alloc ?_ _)); exact BK513.out) hb); replace BK547 := sd_ (blk_below (g := gb547) (o := .cells #[.int .i64 t537, .slice Ao57 t538.length co57, .slice Ao58 t541.length co58, .slice Ao59 t544.length co59] 27 (0, 0)) (by (with_reducible repeat (first | refine blk_drewN ?_ _ | refine blk_drew ?_ | refine blk_alloc ?_ _)); refine blk_put (cs := #[.int .i64 t537, .slice Ao57 t538.length co57, .slice Ao58 t541.length co58, .slice none 0 0]) ?_ 3 _ rfl; (with_reducible repeat (first | refine blk_drewN ?_ _ | refine blk_drew ?_ | refine blk_alloc ?_ _)); refine blk_put (cs := #[.int .i64 t537, .slice Ao57 t538.length co57, .slice none 0 0, .slice none 0 0]) ?_ 2 _ rfl; (with_reducible repeat (first | refine blk_drewN ?_ _ | refine blk_drew ?_ | refine blk_alloc ?_ _)); refine blk_put (cs := #[.int .i64 t537, .slice none 0 0, .slice none 0 0, .slice none 0 0]) ?_ 1 _ rfl; (with_reducible repeat (first | refine blk_drewN ?_ _ | refine blk_drew ?_ | refine blk_alloc ?_ _)); refine blk_put (cs := #[.int .i64 0, .slice none 0 0, .slice none 0 0, .slice none 0 0]) ?_ 0 _ rfl; (with_reducible repeat (first | refine blk_drewN ?_ _ | refine blk_drew ?_ | refine blk_alloc ?_ _)); exact BK547.out) hb); replace HB := sd_ (below_step (bw3_ HB.out GE512.out GE513.out GE547.out) hb); (try clear hb); (try clear hb2); (try clear hk); (try clear hi); (try clear ho0); (try clear ho1); (try clear ho2)) | ((with_reducible refine gate_dst (N := 12) rfl ?_); refine box_event ?hg (N := 12) ?hd (cs := #[.int .i64 0, .slice none 0 0, .slice none 0 0, .slice none 0 0]) (t := 27) ?hr ?_; (case hd => rfl); (case hg => rfl); (case hr => first | (go_simp; done) | (go_simp; rfl)); intro gb558 hg w62 hbox hb; replace HO519 := sd_ (Kd.R_below (ro_ HO519.out) hb); replace HO522 := sd_ (Kd.R_below (ro_ HO522.out) hb); replace HO525 := sd_ (Kd.R_below (ro_ HO525.out) hb); replace HO529 := sd_ (Kd.R_below (ro_ HO529.out) hb); replace HO532 := sd_ (Kd.R_below (ro_ HO532.out) hb); replace HO535 := sd_ (Kd.R_below (ro_ HO535.out) hb); replace HO540 := sd_ (Kd.R_below (ro_ HO540.out) hb); replace HO543 := sd_ (Kd.R_below (ro_ HO543.out) hb); replace HO546 := sd_ (Kd.R_below (ro_ HO546.out) hb); replace HO551 := sd_ (Kd.R_below (ro_ HO551.out) hb); replace HO554 := sd_ (Kd.R_below (ro_ HO554.out) hb); replace HO557 := sd_ (Kd.R_below (ro_ HO557.out) hb); have BK558 := sd_ (hbox); have GW558 := sd_ ((by rw [hg]; exact (below_size (bw3_ HB.out GE512.out GE513.out GE547.out)) : w.heap.size ≤ gb558)); have GE558 := sd_ ((by rw [hg]; exact (below_size (bw3_ HB.out GE512.out GE513.out GE547.out)) : w.heap.size ≤ gb558)); replace HB := sd_ (below_step (bw3_ HB.out GE512.out GE513.out GE547.out) hb); have NB512_558 := sd_ ((by rw [hg]; exact Nat.ne_of_lt (bl_ BK512.out) : gb512 ≠ gb558)); have NB558_512 := sd_ ((by rw [hg]; exact Nat.ne_of_gt (bl_ BK512.out) : gb558 ≠ gb512)); replace BK512 := sd_ (bb_ BK512.out hb); have NB513_558 := sd_ ((by rw [hg]; exact Nat.ne_of_lt (bl_ BK513.out) : gb513 ≠ gb558)); have NB558_513 := sd_ ((by rw [hg]; exact Nat.ne_of_gt (bl_ BK513.out) : gb558 ≠ gb513)); replace BK513 := sd_ (bb_ BK513.out hb); have NB547_558 := sd_ ((by rw [hg]; exact Nat.ne_of_lt (bl_ BK547.out) : gb547 ≠ gb558)); have NB558_547 := sd_ ((by rw [hg]; exact Nat.ne_of_gt (bl_ BK547.out) : gb558 ≠ gb547)); replace BK547 := sd_ (bb_ BK547.out hb); clear hb hbox hg; have hnb63 := NB558_512.out; have hnc63 := NB512_558.out; have hnb64 := NB558_513.out; have hnc64 := NB513_558.out; have hnb65 := NB558_547.out; have hnc65 := NB547_558.out; have hcz66_0 : w62.cell? ⟨gb558, 0, none⟩ = some (.int .i64 0) := (blk_cell BK558.out 0).trans rfl; have hcz66_1 : w62.cell? ⟨gb558, 1, none⟩ = some (.slice none 0 0) := (blk_cell BK558.out 1).trans rfl; have hcz66_2 : w62.cell? ⟨gb558, 2, none⟩ = some (.slice none 0 0) := (blk_cell BK558.out 2).trans rfl; have hcz66_3 : w62.cell? ⟨gb558, 3, none⟩ = some (.slice none 0 0) := (blk_cell BK558.out 3).trans rfl; have hfz66_0 := blk_frozen BK558.out 0; have hfz66_1 := blk_frozen BK558.out 1; have hfz66_2 := blk_frozen BK558.out 2; have hfz66_3 := blk_frozen BK558.out 3; obtain ⟨Ao67, co67, eo67⟩ := Kd.R_slice HO551.out; subst eo67; obtain ⟨Ao68, co68, eo68⟩ := Kd.R_slice HO554.out; subst eo68; obtain ⟨Ao69, co69, eo69⟩ := Kd.R_slice HO557.out; subst eo69; have hcz70_0 : w62.cell? ⟨gb547, 0, none⟩ = some (.int .i64 t537) := (blk_cell BK547.out 0).trans rfl; have hcz70_1 : w62.cell? ⟨gb547, 1, none⟩ = some (.slice Ao57 t538.length co57) := (blk_cell BK547.out 1).trans rfl; have hcz70_2 : w62.cell? ⟨gb547, 2, none⟩ = some (.slice Ao58 t541.length co58) := (blk_cell BK547.out 2).trans rfl; have hcz70_3 : w62.cell? ⟨gb547, 3, none⟩ = some (.slice Ao59 t544.length co59) := (blk_cell BK547.out 3).trans rfl; have hfz70_0 := blk_frozen BK547.out 0; have hfz70_1 := blk_frozen BK547.out 1; have hfz70_2 := blk_frozen BK547.out 2; have hfz70_3 := blk_frozen BK547.out 3) | ((with_reducible refine gate_callee (f := 19) rfl ?_); refine goesL_ (some 39) rfl rfl Try.func19 (by kernel_rfl) rfl #[.agg #[.int .i64 t537, .slice Ao57 t538.length co57, .slice Ao58 t541.length co58, .slice Ao59 t544.length co59], .agg #[.int .i64 t548, .slice Ao67 t549.length co67, .slice Ao68 t552.length co68, .slice Ao69 t555.length co69], .int .i64 a2, .int .i64 a3] rfl (by (try simp only [List.map_toArray, List.map_cons, List.map_nil]); first | done | rfl | (simp only [List.length_drop, List.length_take]; rfl)) ?_; (with_reducible refine (impl_PairGrades.calls k t537 _ _ t538 _ _ t541 _ _ t544 t548 _ _ t549 _ _ t552 _ _ t555 a2 a3 t559 _ ?side1 ?side2 ?side3 ?side4 ?side5 ?side6 ?side7 ?side8 ?side9 ?side10 ?side11 ?side12 A26.out).mono ?_); (case side1 => refine (Kd.R_reads' (e := 3) (base := w.heap.size) (ok := fun k_ => ((((((some k_ ≠ (.slice Ao58 t541.length co58 : Value).ownBlock ∧ some k_ ≠ (.slice Ao44 t517.length co44 : Value).ownBlock) ∧ some k_ ≠ (.slice Ao45 t520.length co45 : Value).ownBlock) ∧ some k_ ≠ (.slice Ao47 t527.length co47 : Value).ownBlock) ∧ some k_ ≠ (.slice Ao48 t530.length co48 : Value).ownBlock) ∧ some k_ ≠ (.slice Ao67 t549.length co67 : Value).ownBlock) ∧ some k_ ≠ (.slice Ao68 t552.length co68 : Value).ownBlock)) (n := t538.length) (c := co57) ?_).2.2; exact (by (with_reducible repeat (first | apply Kd.R_alloc | apply Kd.R_drewN | apply Kd.R_drew)); exact (Kd.R_mono (Kd.R_far (p := ⟨gb558, 3, none⟩) (Kd.R_far (p := ⟨gb558, 2, none⟩) (Kd.R_far (p := ⟨gb558, 1, none⟩) (Kd.R_far (p := ⟨gb558, 0, none⟩) (Kd.R_types HO540.out BK558.out (by decide)) (fun _ hk => hk.2) (.int .i64 t548)) (fun _ hk => hk.2) (.slice Ao67 t549.length co67)) (fun _ hk => hk.2) (.slice Ao68 t552.length co68)) (fun _ hk => hk.2) (.slice Ao69 t555.length co69)) (fun _ h_ => h_.1)))); (case side2 => exact (Kd.R_reads' HO540.out).2.1); (case side3 => refine (Kd.R_reads' (e := 3) (base := w.heap.size) (ok := fun k_ => ((((((some k_ ≠ (.slice Ao57 t538.length co57 : Value).ownBlock ∧ some k_ ≠ (.slice Ao44 t517.length co44 : Value).ownBlock) ∧ some k_ ≠ (.slice Ao45 t520.length co45 : Value).ownBlock) ∧ some k_ ≠ (.slice Ao47 t527.length co47 : Value).ownBlock) ∧ some k_ ≠ (.slice Ao48 t530.length co48 : Value).ownBlock) ∧ some k_ ≠ (.slice Ao67 t549.length co67 : Value).ownBlock) ∧ some k_ ≠ (.slice Ao68 t552.length co68 : Value).ownBlock)) (n := t541.length) (c := co58) ?_).2.2; exact (by (with_reducible repeat (first | apply Kd.R_alloc | apply Kd.R_drewN | apply Kd.R_drew)); exact (Kd.R_mono (Kd.R_far (p := ⟨gb558, 3, none⟩) (Kd.R_far (p := ⟨gb558, 2, none⟩) (Kd.R_far (p := ⟨gb558, 1, none⟩) (Kd.R_far (p := ⟨gb558, 0, none⟩) (Kd.R_types HO543.out BK558.out (by decide)) (fun _ hk => hk.2) (.int .i64 t548)) (fun _ hk => hk.2) (.slice Ao67 t549.length co67)) (fun _ hk => hk.2) (.slice Ao68 t552.length co68)) (fun _ hk => hk.2) (.slice Ao69 t555.length co69)) (fun _ h_ => h_.1)))); (case side4 => exact (Kd.R_reads' HO543.out).2.1); (case side5 => refine (Kd.R_reads' (e := 4) (base := w.heap.size) (ok := fun k_ => (((True ∧ some k_ ≠ (.slice Ao46 t523.length co46 : Value).ownBlock) ∧ some k_ ≠ (.slice Ao49 t533.length co49 : Value).ownBlock) ∧ some k_ ≠ (.slice Ao69 t555.length co69 : Value).ownBlock)) (n := t544.length) (c := co59) ?_).2.2; exact (by (with_reducible repeat (first | apply Kd.R_alloc | apply Kd.R_drewN | apply Kd.R_drew)); exact (Kd.R_mono (Kd.R_far (p := ⟨gb558, 3, none⟩) (Kd.R_far (p := ⟨gb558, 2, none⟩) (Kd.R_far (p := ⟨gb558, 1, none⟩) (Kd.R_far (p := ⟨gb558, 0, none⟩) (Kd.R_types HO546.out BK558.out (by decide)) (fun _ hk => hk.2) (.int .i64 t548)) (fun _ hk => hk.2) (.slice Ao67 t549.length co67)) (fun _ hk => hk.2) (.slice Ao68 t552.length co68)) (fun _ hk => hk.2) (.slice Ao69 t555.length co69)) (fun _ h_ => h_.1)))); (case side6 => exact (Kd.R_reads' HO546.out).2.1); (case side7 => refine (Kd.R_reads' (e := 3) (base := w.heap.size) (ok := fun k_ => ((((((some k_ ≠ (.slice Ao68 t552.length co68 : Value).ownBlock ∧ some k_ ≠ (.slice Ao44 t517.length co44 : Value).ownBlock) ∧ some k_ ≠ (.slice Ao45 t520.length co45 : Value).ownBlock) ∧ some k_ ≠ (.slice Ao47 t527.length co47 : Value).ownBlock) ∧ some k_ ≠ (.slice Ao48 t530.length co48 : Value).ownBlock) ∧ some k_ ≠ (.slice Ao57 t538.length co57 : Value).ownBlock) ∧ some k_ ≠ (.slice Ao58 t541.length co58 : Value).ownBlock)) (n := t549.length) (c := co67) ?_).2.2; exact (by (with_reducible repeat (first | apply Kd.R_alloc | apply Kd.R_drewN | apply Kd.R_drew)); exact (Kd.R_mono (Kd.R_far (p := ⟨gb558, 3, none⟩) (Kd.R_far (p := ⟨gb558, 2, none⟩) (Kd.R_far (p := ⟨gb558, 1, none⟩) (Kd.R_far (p := ⟨gb558, 0, none⟩) (Kd.R_types HO551.out BK558.out (by decide)) (fun _ hk => hk.2) (.int .i64 t548)) (fun _ hk => hk.2) (.slice Ao67 t549.length co67)) (fun _ hk => hk.2) (.slice Ao68 t552.length co68)) (fun _ hk => hk.2) (.slice Ao69 t555.length co69)) (fun _ h_ => h_.1)))); (case side8 => exact (Kd.R_reads' HO551.out).2.1); (case side9 => refine (Kd.R_reads' (e := 3) (base := w.heap.size) (ok := fun k_ => ((((((some k_ ≠ (.slice Ao67 t549.length co67 : Value).ownBlock ∧ some k_ ≠ (.slice Ao44 t517.length co44 : Value).ownBlock) ∧ some k_ ≠ (.slice Ao45 t520.length co45 : Value).ownBlock) ∧ some k_ ≠ (.slice Ao47 t527.length co47 : Value).ownBlock) ∧ some k_ ≠ (.slice Ao48 t530.length co48 : Value).ownBlock) ∧ some k_ ≠ (.slice Ao57 t538.length co57 : Value).ownBlock) ∧ some k_ ≠ (.slice Ao58 t541.length co58 : Value).ownBlock)) (n := t552.length) (c := co68) ?_).2.2; exact (by (with_reducible repeat (first | apply Kd.R_alloc | apply Kd.R_drewN | apply Kd.R_drew)); exact (Kd.R_mono (Kd.R_far (p := ⟨gb558, 3, none⟩) (Kd.R_far (p := ⟨gb558, 2, none⟩) (Kd.R_far (p := ⟨gb558, 1, none⟩) (Kd.R_far (p := ⟨gb558, 0, none⟩) (Kd.R_types HO554.out BK558.out (by decide)) (fun _ hk => hk.2) (.int .i64 t548)) (fun _ hk => hk.2) (.slice Ao67 t549.length co67)) (fun _ hk => hk.2) (.slice Ao68 t552.length co68)) (fun _ hk => hk.2) (.slice Ao69 t555.length co69)) (fun _ h_ => h_.1)))); (case side10 => exact (Kd.R_reads' HO554.out).2.1); (case side11 => refine (Kd.R_reads' (e := 4) (base := w.heap.size) (ok := fun k_ => (((True ∧ some k_ ≠ (.slice Ao46 t523.length co46 : Value).ownBlock) ∧ some k_ ≠ (.slice Ao49 t533.length co49 : Value).ownBlock) ∧ some k_ ≠ (.slice Ao59 t544.length co59 : Value).ownBlock)) (n := t555.length) (c := co69) ?_).2.2; exact (by (with_reducible repeat (first | apply Kd.R_alloc | apply Kd.R_drewN | apply Kd.R_drew)); exact (Kd.R_mono (Kd.R_far (p := ⟨gb558, 3, none⟩) (Kd.R_far (p := ⟨gb558, 2, none⟩) (Kd.R_far (p := ⟨gb558, 1, none⟩) (Kd.R_far (p := ⟨gb558, 0, none⟩) (Kd.R_types HO557.out BK558.out (by decide)) (fun _ hk => hk.2) (.int .i64 t548)) (fun _ hk => hk.2) (.slice Ao67 t549.length co67)) (fun _ hk => hk.2) (.slice Ao68 t552.length co68)) (fun _ hk => hk.2) (.slice Ao69 t555.length co69)) (fun _ h_ => h_.1)))); (case side12 => exact (Kd.R_reads' HO557.out).2.1); rintro e w71 ⟨rfl, hb⟩; refine ⟨_, rfl, ?_⟩; replace HO519 := sd_ (Kd.R_below (by (with_reducible repeat (first | apply Kd.R_alloc | apply Kd.R_drewN | apply Kd.R_drew)); exact (Kd.R_mono (Kd.R_far (p := ⟨gb558, 3, none⟩) (Kd.R_far (p := ⟨gb558, 2, none⟩) (Kd.R_far (p := ⟨gb558, 1, none⟩) (Kd.R_far (p := ⟨gb558, 0, none⟩) (Kd.R_types HO519.out BK558.out (by decide)) (fun _ hk => hk.2) (.int .i64 t548)) (fun _ hk => hk.2) (.slice Ao67 t549.length co67)) (fun _ hk => hk.2) (.slice Ao68 t552.length co68)) (fun _ hk => hk.2) (.slice Ao69 t555.length co69)) (fun _ h_ => h_.1))) hb); replace HO522 := sd_ (Kd.R_below (by (with_reducible repeat (first | apply Kd.R_alloc | apply Kd.R_drewN | apply Kd.R_drew)); exact (Kd.R_mono (Kd.R_far (p := ⟨gb558, 3, none⟩) (Kd.R_far (p := ⟨gb558, 2, none⟩) (Kd.R_far (p := ⟨gb558, 1, none⟩) (Kd.R_far (p := ⟨gb558, 0, none⟩) (Kd.R_types HO522.out BK558.out (by decide)) (fun _ hk => hk.2) (.int .i64 t548)) (fun _ hk => hk.2) (.slice Ao67 t549.length co67)) (fun _ hk => hk.2) (.slice Ao68 t552.length co68)) (fun _ hk => hk.2) (.slice Ao69 t555.length co69)) (fun _ h_ => h_.1))) hb); replace HO525 := sd_ (Kd.R_below (by (with_reducible repeat (first | apply Kd.R_alloc | apply Kd.R_drewN | apply Kd.R_drew)); exact (Kd.R_mono (Kd.R_far (p := ⟨gb558, 3, none⟩) (Kd.R_far (p := ⟨gb558, 2, none⟩) (Kd.R_far (p := ⟨gb558, 1, none⟩) (Kd.R_far (p := ⟨gb558, 0, none⟩) (Kd.R_types HO525.out BK558.out (by decide)) (fun _ hk => hk.2) (.int .i64 t548)) (fun _ hk => hk.2) (.slice Ao67 t549.length co67)) (fun _ hk => hk.2) (.slice Ao68 t552.length co68)) (fun _ hk => hk.2) (.slice Ao69 t555.length co69)) (fun _ h_ => h_.1))) hb); replace HO529 := sd_ (Kd.R_below (by (with_reducible repeat (first | apply Kd.R_alloc | apply Kd.R_drewN | apply Kd.R_drew)); exact (Kd.R_mono (Kd.R_far (p := ⟨gb558, 3, none⟩) (Kd.R_far (p := ⟨gb558, 2, none⟩) (Kd.R_far (p := ⟨gb558, 1, none⟩) (Kd.R_far (p := ⟨gb558, 0, none⟩) (Kd.R_types HO529.out BK558.out (by decide)) (fun _ hk => hk.2) (.int .i64 t548)) (fun _ hk => hk.2) (.slice Ao67 t549.length co67)) (fun _ hk => hk.2) (.slice Ao68 t552.length co68)) (fun _ hk => hk.2) (.slice Ao69 t555.length co69)) (fun _ h_ => h_.1))) hb); replace HO532 := sd_ (Kd.R_below (by (with_reducible repeat (first | apply Kd.R_alloc | apply Kd.R_drewN | apply Kd.R_drew)); exact (Kd.R_mono (Kd.R_far (p := ⟨gb558, 3, none⟩) (Kd.R_far (p := ⟨gb558, 2, none⟩) (Kd.R_far (p := ⟨gb558, 1, none⟩) (Kd.R_far (p := ⟨gb558, 0, none⟩) (Kd.R_types HO532.out BK558.out (by decide)) (fun _ hk => hk.2) (.int .i64 t548)) (fun _ hk => hk.2) (.slice Ao67 t549.length co67)) (fun _ hk => hk.2) (.slice Ao68 t552.length co68)) (fun _ hk => hk.2) (.slice Ao69 t555.length co69)) (fun _ h_ => h_.1))) hb); replace HO535 := sd_ (Kd.R_below (by (with_reducible repeat (first | apply Kd.R_alloc | apply Kd.R_drewN | apply Kd.R_drew)); exact (Kd.R_mono (Kd.R_far (p := ⟨gb558, 3, none⟩) (Kd.R_far (p := ⟨gb558, 2, none⟩) (Kd.R_far (p := ⟨gb558, 1, none⟩) (Kd.R_far (p := ⟨gb558, 0, none⟩) (Kd.R_types HO535.out BK558.out (by decide)) (fun _ hk => hk.2) (.int .i64 t548)) (fun _ hk => hk.2) (.slice Ao67 t549.length co67)) (fun _ hk => hk.2) (.slice Ao68 t552.length co68)) (fun _ hk => hk.2) (.slice Ao69 t555.length co69)) (fun _ h_ => h_.1))) hb); replace HO540 := sd_ (Kd.R_below (by (with_reducible repeat (first | apply Kd.R_alloc | apply Kd.R_drewN | apply Kd.R_drew)); exact (Kd.R_mono (Kd.R_far (p := ⟨gb558, 3, none⟩) (Kd.R_far (p := ⟨gb558, 2, none⟩) (Kd.R_far (p := ⟨gb558, 1, none⟩) (Kd.R_far (p := ⟨gb558, 0, none⟩) (Kd.R_types HO540.out BK558.out (by decide)) (fun _ hk => hk.2) (.int .i64 t548)) (fun _ hk => hk.2) (.slice Ao67 t549.length co67)) (fun _ hk => hk.2) (.slice Ao68 t552.length co68)) (fun _ hk => hk.2) (.slice Ao69 t555.length co69)) (fun _ h_ => h_.1))) hb); replace HO543 := sd_ (Kd.R_below (by (with_reducible repeat (first | apply Kd.R_alloc | apply Kd.R_drewN | apply Kd.R_drew)); exact (Kd.R_mono (Kd.R_far (p := ⟨gb558, 3, none⟩) (Kd.R_far (p := ⟨gb558, 2, none⟩) (Kd.R_far (p := ⟨gb558, 1, none⟩) (Kd.R_far (p := ⟨gb558, 0, none⟩) (Kd.R_types HO543.out BK558.out (by decide)) (fun _ hk => hk.2) (.int .i64 t548)) (fun _ hk => hk.2) (.slice Ao67 t549.length co67)) (fun _ hk => hk.2) (.slice Ao68 t552.length co68)) (fun _ hk => hk.2) (.slice Ao69 t555.length co69)) (fun _ h_ => h_.1))) hb); replace HO546 := sd_ (Kd.R_below (by (with_reducible repeat (first | apply Kd.R_alloc | apply Kd.R_drewN | apply Kd.R_drew)); exact (Kd.R_mono (Kd.R_far (p := ⟨gb558, 3, none⟩) (Kd.R_far (p := ⟨gb558, 2, none⟩) (Kd.R_far (p := ⟨gb558, 1, none⟩) (Kd.R_far (p := ⟨gb558, 0, none⟩) (Kd.R_types HO546.out BK558.out (by decide)) (fun _ hk => hk.2) (.int .i64 t548)) (fun _ hk => hk.2) (.slice Ao67 t549.length co67)) (fun _ hk => hk.2) (.slice Ao68 t552.length co68)) (fun _ hk => hk.2) (.slice Ao69 t555.length co69)) (fun _ h_ => h_.1))) hb); replace HO551 := sd_ (Kd.R_below (by (with_reducible repeat (first | apply Kd.R_alloc | apply Kd.R_drewN | apply Kd.R_drew)); exact (Kd.R_mono (Kd.R_far (p := ⟨gb558, 3, none⟩) (Kd.R_far (p := ⟨gb558, 2, none⟩) (Kd.R_far (p := ⟨gb558, 1, none⟩) (Kd.R_far (p := ⟨gb558, 0, none⟩) (Kd.R_types HO551.out BK558.out (by decide)) (fun _ hk => hk.2) (.int .i64 t548)) (fun _ hk => hk.2) (.slice Ao67 t549.length co67)) (fun _ hk => hk.2) (.slice Ao68 t552.length co68)) (fun _ hk => hk.2) (.slice Ao69 t555.length co69)) (fun _ h_ => h_.1))) hb); replace HO554 := sd_ (Kd.R_below (by (with_reducible repeat (first | apply Kd.R_alloc | apply Kd.R_drewN | apply Kd.R_drew)); exact (Kd.R_mono (Kd.R_far (p := ⟨gb558, 3, none⟩) (Kd.R_far (p := ⟨gb558, 2, none⟩) (Kd.R_far (p := ⟨gb558, 1, none⟩) (Kd.R_far (p := ⟨gb558, 0, none⟩) (Kd.R_types HO554.out BK558.out (by decide)) (fun _ hk => hk.2) (.int .i64 t548)) (fun _ hk => hk.2) (.slice Ao67 t549.length co67)) (fun _ hk => hk.2) (.slice Ao68 t552.length co68)) (fun _ hk => hk.2) (.slice Ao69 t555.length co69)) (fun _ h_ => h_.1))) hb); replace HO557 := sd_ (Kd.R_below (by (with_reducible repeat (first | apply Kd.R_alloc | apply Kd.R_drewN | apply Kd.R_drew)); exact (Kd.R_mono (Kd.R_far (p := ⟨gb558, 3, none⟩) (Kd.R_far (p := ⟨gb558, 2, none⟩) (Kd.R_far (p := ⟨gb558, 1, none⟩) (Kd.R_far (p := ⟨gb558, 0, none⟩) (Kd.R_types HO557.out BK558.out (by decide)) (fun _ hk => hk.2) (.int .i64 t548)) (fun _ hk => hk.2) (.slice Ao67 t549.length co67)) (fun _ hk => hk.2) (.slice Ao68 t552.length co68)) (fun _ hk => hk.2) (.slice Ao69 t555.length co69)) (fun _ h_ => h_.1))) hb); replace BK512 := sd_ (blk_below (g := gb512) (o := .cells #[.int .i64 a0_0, .slice A0_1 l0_1.length c0_1, .slice A0_2 l0_2.length c0_2, .slice A0_3 l0_3.length c0_3] 37 (0, 0)) (by (with_reducible repeat (first | refine blk_drewN ?_ _ | refine blk_drew ?_ | refine blk_alloc ?_ _)); refine blk_far ?_ NB512_558.out _; (with_reducible repeat (first | refine blk_drewN ?_ _ | refine blk_drew ?_ | refine blk_alloc ?_ _)); refine blk_far ?_ NB512_558.out _; (with_reducible repeat (first | refine blk_drewN ?_ _ | refine blk_drew ?_ | refine blk_alloc ?_ _)); refine blk_far ?_ NB512_558.out _; (with_reducible repeat (first | refine blk_drewN ?_ _ | refine blk_drew ?_ | refine blk_alloc ?_ _)); refine blk_far ?_ NB512_558.out _; (with_reducible repeat (first | refine blk_drewN ?_ _ | refine blk_drew ?_ | refine blk_alloc ?_ _)); exact BK512.out) hb); replace BK513 := sd_ (blk_below (g := gb513) (o := .cells #[.int .i64 a1_0, .slice A1_1 l1_1.length c1_1, .slice A1_2 l1_2.length c1_2, .slice A1_3 l1_3.length c1_3] 37 (0, 0)) (by (with_reducible repeat (first | refine blk_drewN ?_ _ | refine blk_drew ?_ | refine blk_alloc ?_ _)); refine blk_far ?_ NB513_558.out _; (with_reducible repeat (first | refine blk_drewN ?_ _ | refine blk_drew ?_ | refine blk_alloc ?_ _)); refine blk_far ?_ NB513_558.out _; (with_reducible repeat (first | refine blk_drewN ?_ _ | refine blk_drew ?_ | refine blk_alloc ?_ _)); refine blk_far ?_ NB513_558.out _; (with_reducible repeat (first | refine blk_drewN ?_ _ | refine blk_drew ?_ | refine blk_alloc ?_ _)); refine blk_far ?_ NB513_558.out _; (with_reducible repeat (first | refine blk_drewN ?_ _ | refine blk_drew ?_ | refine blk_alloc ?_ _)); exact BK513.out) hb); replace BK547 := sd_ (blk_below (g := gb547) (o := .cells #[.int .i64 t537, .slice Ao57 t538.length co57, .slice Ao58 t541.length co58, .slice Ao59 t544.length co59] 27 (0, 0)) (by (with_reducible repeat (first | refine blk_drewN ?_ _ | refine blk_drew ?_ | refine blk_alloc ?_ _)); refine blk_far ?_ NB547_558.out _; (with_reducible repeat (first | refine blk_drewN ?_ _ | refine blk_drew ?_ | refine blk_alloc ?_ _)); refine blk_far ?_ NB547_558.out _; (with_reducible repeat (first | refine blk_drewN ?_ _ | refine blk_drew ?_ | refine blk_alloc ?_ _)); refine blk_far ?_ NB547_558.out _; (with_reducible repeat (first | refine blk_drewN ?_ _ | refine blk_drew ?_ | refine blk_alloc ?_ _)); refine blk_far ?_ NB547_558.out _; (with_reducible repeat (first | refine blk_drewN ?_ _ | refine blk_drew ?_ | refine blk_alloc ?_ _)); exact BK547.out) hb); replace BK558 := sd_ (blk_below (g := gb558) (o := .cells #[.int .i64 t548, .slice Ao67 t549.length co67, .slice Ao68 t552.length co68, .slice Ao69 t555.length co69] 27 (0, 0)) (by (with_reducible repeat (first | refine blk_drewN ?_ _ | refine blk_drew ?_ | refine blk_alloc ?_ _)); refine blk_put (cs := #[.int .i64 t548, .slice Ao67 t549.length co67, .slice Ao68 t552.length co68, .slice none 0 0]) ?_ 3 _ rfl; (with_reducible repeat (first | refine blk_drewN ?_ _ | refine blk_drew ?_ | refine blk_alloc ?_ _)); refine blk_put (cs := #[.int .i64 t548, .slice Ao67 t549.length co67, .slice none 0 0, .slice none 0 0]) ?_ 2 _ rfl; (with_reducible repeat (first | refine blk_drewN ?_ _ | refine blk_drew ?_ | refine blk_alloc ?_ _)); refine blk_put (cs := #[.int .i64 t548, .slice none 0 0, .slice none 0 0, .slice none 0 0]) ?_ 1 _ rfl; (with_reducible repeat (first | refine blk_drewN ?_ _ | refine blk_drew ?_ | refine blk_alloc ?_ _)); refine blk_put (cs := #[.int .i64 0, .slice none 0 0, .slice none 0 0, .slice none 0 0]) ?_ 0 _ rfl; (with_reducible repeat (first | refine blk_drewN ?_ _ | refine blk_drew ?_ | refine blk_alloc ?_ _)); exact BK558.out) hb); replace HB := sd_ (below_step (bw4_ HB.out GE512.out GE513.out GE547.out GE558.out) hb); (try clear hb); (try clear hb2); (try clear hk); (try clear hi)))
      replace HO519 := sd_ (Kd.R_drew HO519.out)
      replace HO522 := sd_ (Kd.R_drew HO522.out)
      replace HO525 := sd_ (Kd.R_drew HO525.out)
      replace HO529 := sd_ (Kd.R_drew HO529.out)
      replace HO532 := sd_ (Kd.R_drew HO532.out)
      replace HO535 := sd_ (Kd.R_drew HO535.out)
      replace HO540 := sd_ (Kd.R_drew HO540.out)
      replace HO543 := sd_ (Kd.R_drew HO543.out)
      replace HO546 := sd_ (Kd.R_drew HO546.out)
      replace HO551 := sd_ (Kd.R_drew HO551.out)
      replace HO554 := sd_ (Kd.R_drew HO554.out)
      replace HO557 := sd_ (Kd.R_drew HO557.out)
      replace BK512 := sd_ (blk_drew BK512.out)
      replace BK513 := sd_ (blk_drew BK513.out)
      replace BK547 := sd_ (blk_drew BK547.out)
      replace BK558 := sd_ (blk_drew BK558.out)
      replace HB := sd_ (below_drew1 HB.out)
      refine start_ (n := 5) (S := fun w' => w'.cell? ⟨gb547, 0, none⟩ = some (.int .i64 t537) ∧ w'.cell? ⟨gb547, 1, none⟩ = some (.slice Ao57 t538.length co57) ∧ w'.cell? ⟨gb547, 2, none⟩ = some (.slice Ao58 t541.length co58) ∧ w'.cell? ⟨gb547, 3, none⟩ = some (.slice Ao59 t544.length co59) ∧ w'.cell? ⟨gb512, 0, none⟩ = some (.int .i64 a0_0) ∧ w'.cell? ⟨gb512, 1, none⟩ = some (.slice A0_1 l0_1.length c0_1) ∧ w'.cell? ⟨gb512, 2, none⟩ = some (.slice A0_2 l0_2.length c0_2) ∧ w'.cell? ⟨gb512, 3, none⟩ = some (.slice A0_3 l0_3.length c0_3)) (ds := []) #[false, false, false, false, false] (by kernel_rfl) rfl rfl ⟨(blk_cell BK547.out 0).trans rfl, (blk_cell BK547.out 1).trans rfl, (blk_cell BK547.out 2).trans rfl, (blk_cell BK547.out 3).trans rfl, (blk_cell BK512.out 0).trans rfl, (blk_cell BK512.out 1).trans rfl, (blk_cell BK512.out 2).trans rfl, (blk_cell BK512.out 3).trans rfl⟩ (fun hHeld => ?_)
      generalize w71.drew = w72 at HO519 HO522 HO525 HO529 HO532 HO535 HO540 HO543 HO546 HO551 HO554 HO557 BK512 BK513 BK547 BK558 HB hHeld ⊢
      refine take_ (i := 0) (N := some 43) (v := ?_) (a' := ?_) #[true, false, false, false, false] rfl rfl (by kernel_rfl) (fun _ _ _ h => h) (Or.inl ⟨by rfl, ?_⟩) hHeld ?_ ?_
      rotate_left
      ·rintro w' ⟨s0, s1, s2, s3, s4, s5, s6, s7⟩
       go_simp
       with_reducible rfl
      rotate_left
      ·simp only [Act.put, List.setIfInBounds_toArray, List.set_cons_zero, List.set_cons_succ, i64_w, i32_w]
       rfl
      refine take_ (i := 1) (N := some 44) (v := ?_) (a' := ?_) #[true, true, false, false, false] rfl rfl (by kernel_rfl) (fun _ _ _ h => h) (Or.inl ⟨by rfl, ?_⟩) hHeld ?_ ?_
      rotate_left
      ·rintro w' ⟨s0, s1, s2, s3, s4, s5, s6, s7⟩
       go_simp
       with_reducible rfl
      rotate_left
      ·simp only [Act.put, List.setIfInBounds_toArray, List.set_cons_zero, List.set_cons_succ, i64_w, i32_w]
       rfl
      refine one_ (i := 2) (N := some 45) #[true, true, true, false, false] rfl rfl (by kernel_rfl) (by decide) (fun K hK => ?_)
      refine goes_ Try.func24 (by kernel_rfl) rfl #[.agg #[.int .i64 a0_0, .slice A0_1 l0_1.length c0_1, .slice A0_2 l0_2.length c0_2, .slice A0_3 l0_3.length c0_3]] (by rfl) rfl rfl (by (try simp only [List.map_toArray, List.map_cons, List.map_nil]); first | done | rfl | (simp only [List.length_drop, List.length_take]; rfl)) ?_
      with_reducible refine (laws_toSystem.calls k a0_0 _ _ l0_1 _ _ l0_2 _ _ l0_3 t560 t561 t564 t567 _ ?side1 ?side2 ?side3 ?side4 ?side5 ?side6 A28.out).mono ?_
      (case side1 => exact kc_ HR0_1.out HB.out)
      (case side2 => exact HC0_1.out)
      (case side3 => exact kc_ HR0_2.out HB.out)
      (case side4 => exact HC0_2.out)
      (case side5 => exact kc_ HR0_3.out HB.out)
      (case side6 => exact HC0_3.out)
      rintro e w73 ⟨v562, v565, v568, rfl, ho0, ho1, ho2, hb⟩
      refine ⟨_, rfl, ?_⟩
      have HO563 := sd_ (Kd.R_lower (Kd.R_new' (Kd.R_new' (Kd.R_new' (Kd.R_new' (Kd.R_new' (Kd.R_new' (Kd.R_new' (Kd.R_new' ho0 (Kd.R_lt (ro_ HO519.out))) (Kd.R_lt (ro_ HO522.out))) (Kd.R_lt (ro_ HO529.out))) (Kd.R_lt (ro_ HO532.out))) (Kd.R_lt (ro_ HO540.out))) (Kd.R_lt (ro_ HO543.out))) (Kd.R_lt (ro_ HO551.out))) (Kd.R_lt (ro_ HO554.out))) (below_size (bw4_ HB.out GE512.out GE513.out GE547.out GE558.out)))
      have HO566 := sd_ (Kd.R_lower (Kd.R_new' (Kd.R_new' (Kd.R_new' (Kd.R_new' (Kd.R_new' (Kd.R_new' (Kd.R_new' (Kd.R_new' ho1 (Kd.R_lt (ro_ HO519.out))) (Kd.R_lt (ro_ HO522.out))) (Kd.R_lt (ro_ HO529.out))) (Kd.R_lt (ro_ HO532.out))) (Kd.R_lt (ro_ HO540.out))) (Kd.R_lt (ro_ HO543.out))) (Kd.R_lt (ro_ HO551.out))) (Kd.R_lt (ro_ HO554.out))) (below_size (bw4_ HB.out GE512.out GE513.out GE547.out GE558.out)))
      replace HO519 := sd_ (Kd.R_mono (Kd.R_told (Kd.R_told (Kd.R_old (ro_ HO519.out) hb) (Kd.R_base ho0)) (Kd.R_base ho1)) (fun _ h_ => h_.1))
      replace HO522 := sd_ (Kd.R_mono (Kd.R_told (Kd.R_told (Kd.R_old (ro_ HO522.out) hb) (Kd.R_base ho0)) (Kd.R_base ho1)) (fun _ h_ => h_.1))
      replace HO529 := sd_ (Kd.R_mono (Kd.R_told (Kd.R_told (Kd.R_old (ro_ HO529.out) hb) (Kd.R_base ho0)) (Kd.R_base ho1)) (fun _ h_ => h_.1))
      replace HO532 := sd_ (Kd.R_mono (Kd.R_told (Kd.R_told (Kd.R_old (ro_ HO532.out) hb) (Kd.R_base ho0)) (Kd.R_base ho1)) (fun _ h_ => h_.1))
      replace HO540 := sd_ (Kd.R_mono (Kd.R_told (Kd.R_told (Kd.R_old (ro_ HO540.out) hb) (Kd.R_base ho0)) (Kd.R_base ho1)) (fun _ h_ => h_.1))
      replace HO543 := sd_ (Kd.R_mono (Kd.R_told (Kd.R_told (Kd.R_old (ro_ HO543.out) hb) (Kd.R_base ho0)) (Kd.R_base ho1)) (fun _ h_ => h_.1))
      replace HO551 := sd_ (Kd.R_mono (Kd.R_told (Kd.R_told (Kd.R_old (ro_ HO551.out) hb) (Kd.R_base ho0)) (Kd.R_base ho1)) (fun _ h_ => h_.1))
      replace HO554 := sd_ (Kd.R_mono (Kd.R_told (Kd.R_told (Kd.R_old (ro_ HO554.out) hb) (Kd.R_base ho0)) (Kd.R_base ho1)) (fun _ h_ => h_.1))
      have HO569 := sd_ (Kd.R_lower (Kd.R_new' (Kd.R_new' (Kd.R_new' (Kd.R_new' ho2 (Kd.R_lt (ro_ HO525.out))) (Kd.R_lt (ro_ HO535.out))) (Kd.R_lt (ro_ HO546.out))) (Kd.R_lt (ro_ HO557.out))) (below_size (bw4_ HB.out GE512.out GE513.out GE547.out GE558.out)))
      replace HO525 := sd_ (Kd.R_elder' (ro_ HO525.out) (Kd.R_base ho2) hb)
      replace HO535 := sd_ (Kd.R_elder' (ro_ HO535.out) (Kd.R_base ho2) hb)
      replace HO546 := sd_ (Kd.R_elder' (ro_ HO546.out) (Kd.R_base ho2) hb)
      replace HO557 := sd_ (Kd.R_elder' (ro_ HO557.out) (Kd.R_base ho2) hb)
      replace BK512 := sd_ (bb_ BK512.out hb)
      replace BK513 := sd_ (bb_ BK513.out hb)
      replace BK547 := sd_ (bb_ BK547.out hb)
      replace BK558 := sd_ (bb_ BK558.out hb)
      replace HB := sd_ (below_step (bw4_ HB.out GE512.out GE513.out GE547.out GE558.out) hb)
      (try clear hb)
      (try clear hb2)
      (try clear hk)
      (try clear hi)
      (try clear ho0)
      (try clear ho1)
      (try clear ho2)
      obtain ⟨Ao74, co74, eo74⟩ := Kd.R_slice HO563.out
      (first | subst eo74 | (injection eo74 with f1_ f2_ f3_; have f4_ := f1_.symm; have f5_ := f3_.symm; clear f1_ f2_ f3_; subst f4_; subst f5_))
      obtain ⟨Ao75, co75, eo75⟩ := Kd.R_slice HO566.out
      (first | subst eo75 | (injection eo75 with f1_ f2_ f3_; have f4_ := f1_.symm; have f5_ := f3_.symm; clear f1_ f2_ f3_; subst f4_; subst f5_))
      obtain ⟨Ao76, co76, eo76⟩ := Kd.R_slice HO569.out
      (first | subst eo76 | (injection eo76 with f1_ f2_ f3_; have f4_ := f1_.symm; have f5_ := f3_.symm; clear f1_ f2_ f3_; subst f4_; subst f5_))
      refine hK.out _ _ ⟨(blk_cell BK547.out 0).trans rfl, (blk_cell BK547.out 1).trans rfl, (blk_cell BK547.out 2).trans rfl, (blk_cell BK547.out 3).trans rfl, (blk_cell BK512.out 0).trans rfl, (blk_cell BK512.out 1).trans rfl, (blk_cell BK512.out 2).trans rfl, (blk_cell BK512.out 3).trans rfl⟩ (fun hHeld => ?_)
      clear hK K
      refine norm_ (a' := ?_) ?_ ?_
      rotate_left
      ·show Act.put _ (some 45) _ = _
       simp only [Act.put, List.setIfInBounds_toArray, List.set_cons_zero, List.set_cons_succ, i64_w, i32_w]
       rfl
      refine one_ (i := 3) (N := some 46) #[true, true, true, true, false] rfl rfl (by kernel_rfl) (by decide) (fun K hK => ?_)
      refine goes_ Try.func25 (by kernel_rfl) rfl #[.agg #[.int .i64 t537, .slice Ao57 t538.length co57, .slice Ao58 t541.length co58, .slice Ao59 t544.length co59], .agg #[.int .i64 t560, .slice Ao74 t561.length co74, .slice Ao75 t564.length co75, .slice Ao76 t567.length co76]] (by rfl) rfl rfl (by (try simp only [List.map_toArray, List.map_cons, List.map_nil]); first | done | rfl | (simp only [List.length_drop, List.length_take]; rfl)) ?_
      with_reducible refine (laws_eqSystem.calls k t537 _ _ t538 _ _ t541 _ _ t544 t560 _ _ t561 _ _ t564 _ _ t567 true _ ?side1 ?side2 ?side3 ?side4 ?side5 ?side6 ?side7 ?side8 ?side9 ?side10 ?side11 ?side12 A29.out).mono ?_
      (case side1 => exact kp_ (Kd.R_reads' HO540.out).2.2)
      (case side2 => exact (Kd.R_reads' HO540.out).2.1)
      (case side3 => exact kp_ (Kd.R_reads' HO543.out).2.2)
      (case side4 => exact (Kd.R_reads' HO543.out).2.1)
      (case side5 => exact kp_ (Kd.R_reads' HO546.out).2.2)
      (case side6 => exact (Kd.R_reads' HO546.out).2.1)
      (case side7 => exact kp_ (Kd.R_reads' HO563.out).2.2)
      (case side8 => exact (Kd.R_reads' HO563.out).2.1)
      (case side9 => exact kp_ (Kd.R_reads' HO566.out).2.2)
      (case side10 => exact (Kd.R_reads' HO566.out).2.1)
      (case side11 => exact kp_ (Kd.R_reads' HO569.out).2.2)
      (case side12 => exact (Kd.R_reads' HO569.out).2.1)
      rintro e w77 ⟨rfl, hb⟩
      refine ⟨_, rfl, ?_⟩
      replace HO519 := sd_ (Kd.R_below (ro_ HO519.out) hb)
      replace HO522 := sd_ (Kd.R_below (ro_ HO522.out) hb)
      replace HO525 := sd_ (Kd.R_below (ro_ HO525.out) hb)
      replace HO529 := sd_ (Kd.R_below (ro_ HO529.out) hb)
      replace HO532 := sd_ (Kd.R_below (ro_ HO532.out) hb)
      replace HO535 := sd_ (Kd.R_below (ro_ HO535.out) hb)
      replace HO540 := sd_ (Kd.R_below (ro_ HO540.out) hb)
      replace HO543 := sd_ (Kd.R_below (ro_ HO543.out) hb)
      replace HO546 := sd_ (Kd.R_below (ro_ HO546.out) hb)
      replace HO551 := sd_ (Kd.R_below (ro_ HO551.out) hb)
      replace HO554 := sd_ (Kd.R_below (ro_ HO554.out) hb)
      replace HO557 := sd_ (Kd.R_below (ro_ HO557.out) hb)
      replace HO563 := sd_ (Kd.R_below (ro_ HO563.out) hb)
      replace HO566 := sd_ (Kd.R_below (ro_ HO566.out) hb)
      replace HO569 := sd_ (Kd.R_below (ro_ HO569.out) hb)
      replace BK512 := sd_ (bb_ BK512.out hb)
      replace BK513 := sd_ (bb_ BK513.out hb)
      replace BK547 := sd_ (bb_ BK547.out hb)
      replace BK558 := sd_ (bb_ BK558.out hb)
      replace HB := sd_ (below_step (bw4_ HB.out GE512.out GE513.out GE547.out GE558.out) hb)
      (try clear hb)
      (try clear hb2)
      (try clear hk)
      (try clear hi)
      refine hK.out _ _ ⟨(blk_cell BK547.out 0).trans rfl, (blk_cell BK547.out 1).trans rfl, (blk_cell BK547.out 2).trans rfl, (blk_cell BK547.out 3).trans rfl, (blk_cell BK512.out 0).trans rfl, (blk_cell BK512.out 1).trans rfl, (blk_cell BK512.out 2).trans rfl, (blk_cell BK512.out 3).trans rfl⟩ (fun hHeld => ?_)
      clear hK K
      refine norm_ (a' := ?_) ?_ ?_
      rotate_left
      ·show Act.put _ (some 46) _ = _
       simp only [Act.put, List.setIfInBounds_toArray, List.set_cons_zero, List.set_cons_succ, i64_w, i32_w]
       rfl
      refine pure_ (i := 4) (N := some 47) (v := ?_) (a' := ?_) #[true, true, true, true, true] rfl rfl (by kernel_rfl) (fun _ _ _ h => h) (Or.inl ⟨by rfl, ?_⟩) ?_ ?_
      rotate_left
      ·intro w'
       go_simp
       with_reducible rfl
      rotate_left
      ·simp only [Act.put, List.setIfInBounds_toArray, List.set_cons_zero, List.set_cons_succ, i64_w, i32_w]
       rfl
      refine done_ (by kernel_rfl) ?_
      try go_wp2
      replace HO519 := sd_ (Kd.R_drew HO519.out)
      replace HO522 := sd_ (Kd.R_drew HO522.out)
      replace HO525 := sd_ (Kd.R_drew HO525.out)
      replace HO529 := sd_ (Kd.R_drew HO529.out)
      replace HO532 := sd_ (Kd.R_drew HO532.out)
      replace HO535 := sd_ (Kd.R_drew HO535.out)
      replace HO540 := sd_ (Kd.R_drew HO540.out)
      replace HO543 := sd_ (Kd.R_drew HO543.out)
      replace HO546 := sd_ (Kd.R_drew HO546.out)
      replace HO551 := sd_ (Kd.R_drew HO551.out)
      replace HO554 := sd_ (Kd.R_drew HO554.out)
      replace HO557 := sd_ (Kd.R_drew HO557.out)
      replace HO563 := sd_ (Kd.R_drew HO563.out)
      replace HO566 := sd_ (Kd.R_drew HO566.out)
      replace HO569 := sd_ (Kd.R_drew HO569.out)
      replace BK512 := sd_ (blk_drew BK512.out)
      replace BK513 := sd_ (blk_drew BK513.out)
      replace BK547 := sd_ (blk_drew BK547.out)
      replace BK558 := sd_ (blk_drew BK558.out)
      replace HB := sd_ (below_drew1 HB.out)
      refine start_ (n := 5) (S := fun w' => w'.cell? ⟨gb558, 0, none⟩ = some (.int .i64 t548) ∧ w'.cell? ⟨gb558, 1, none⟩ = some (.slice Ao67 t549.length co67) ∧ w'.cell? ⟨gb558, 2, none⟩ = some (.slice Ao68 t552.length co68) ∧ w'.cell? ⟨gb558, 3, none⟩ = some (.slice Ao69 t555.length co69) ∧ w'.cell? ⟨gb513, 0, none⟩ = some (.int .i64 a1_0) ∧ w'.cell? ⟨gb513, 1, none⟩ = some (.slice A1_1 l1_1.length c1_1) ∧ w'.cell? ⟨gb513, 2, none⟩ = some (.slice A1_2 l1_2.length c1_2) ∧ w'.cell? ⟨gb513, 3, none⟩ = some (.slice A1_3 l1_3.length c1_3)) (ds := []) #[false, false, false, false, false] (by kernel_rfl) rfl rfl ⟨(blk_cell BK558.out 0).trans rfl, (blk_cell BK558.out 1).trans rfl, (blk_cell BK558.out 2).trans rfl, (blk_cell BK558.out 3).trans rfl, (blk_cell BK513.out 0).trans rfl, (blk_cell BK513.out 1).trans rfl, (blk_cell BK513.out 2).trans rfl, (blk_cell BK513.out 3).trans rfl⟩ (fun hHeld => ?_)
      generalize w77.drew = w78 at HO519 HO522 HO525 HO529 HO532 HO535 HO540 HO543 HO546 HO551 HO554 HO557 HO563 HO566 HO569 BK512 BK513 BK547 BK558 HB hHeld ⊢
      refine take_ (i := 0) (N := some 48) (v := ?_) (a' := ?_) #[true, false, false, false, false] rfl rfl (by kernel_rfl) (fun _ _ _ h => h) (Or.inl ⟨by rfl, ?_⟩) hHeld ?_ ?_
      rotate_left
      ·rintro w' ⟨s0, s1, s2, s3, s4, s5, s6, s7⟩
       go_simp
       with_reducible rfl
      rotate_left
      ·simp only [Act.put, List.setIfInBounds_toArray, List.set_cons_zero, List.set_cons_succ, i64_w, i32_w]
       rfl
      refine take_ (i := 1) (N := some 49) (v := ?_) (a' := ?_) #[true, true, false, false, false] rfl rfl (by kernel_rfl) (fun _ _ _ h => h) (Or.inl ⟨by rfl, ?_⟩) hHeld ?_ ?_
      rotate_left
      ·rintro w' ⟨s0, s1, s2, s3, s4, s5, s6, s7⟩
       go_simp
       with_reducible rfl
      rotate_left
      ·simp only [Act.put, List.setIfInBounds_toArray, List.set_cons_zero, List.set_cons_succ, i64_w, i32_w]
       rfl
      refine one_ (i := 2) (N := some 50) #[true, true, true, false, false] rfl rfl (by kernel_rfl) (by decide) (fun K hK => ?_)
      refine goes_ Try.func24 (by kernel_rfl) rfl #[.agg #[.int .i64 a1_0, .slice A1_1 l1_1.length c1_1, .slice A1_2 l1_2.length c1_2, .slice A1_3 l1_3.length c1_3]] (by rfl) rfl rfl (by (try simp only [List.map_toArray, List.map_cons, List.map_nil]); first | done | rfl | (simp only [List.length_drop, List.length_take]; rfl)) ?_
      with_reducible refine (laws_toSystem.calls k a1_0 _ _ l1_1 _ _ l1_2 _ _ l1_3 t571 t572 t575 t578 _ ?side1 ?side2 ?side3 ?side4 ?side5 ?side6 A31.out).mono ?_
      (case side1 => exact kc_ HR1_1.out HB.out)
      (case side2 => exact HC1_1.out)
      (case side3 => exact kc_ HR1_2.out HB.out)
      (case side4 => exact HC1_2.out)
      (case side5 => exact kc_ HR1_3.out HB.out)
      (case side6 => exact HC1_3.out)
      rintro e w79 ⟨v573, v576, v579, rfl, ho0, ho1, ho2, hb⟩
      refine ⟨_, rfl, ?_⟩
      have HO574 := sd_ (Kd.R_lower (Kd.R_new' (Kd.R_new' (Kd.R_new' (Kd.R_new' (Kd.R_new' (Kd.R_new' (Kd.R_new' (Kd.R_new' (Kd.R_new' (Kd.R_new' ho0 (Kd.R_lt (ro_ HO519.out))) (Kd.R_lt (ro_ HO522.out))) (Kd.R_lt (ro_ HO529.out))) (Kd.R_lt (ro_ HO532.out))) (Kd.R_lt (ro_ HO540.out))) (Kd.R_lt (ro_ HO543.out))) (Kd.R_lt (ro_ HO551.out))) (Kd.R_lt (ro_ HO554.out))) (Kd.R_lt (ro_ HO563.out))) (Kd.R_lt (ro_ HO566.out))) (below_size (bw4_ HB.out GE512.out GE513.out GE547.out GE558.out)))
      have HO577 := sd_ (Kd.R_lower (Kd.R_new' (Kd.R_new' (Kd.R_new' (Kd.R_new' (Kd.R_new' (Kd.R_new' (Kd.R_new' (Kd.R_new' (Kd.R_new' (Kd.R_new' ho1 (Kd.R_lt (ro_ HO519.out))) (Kd.R_lt (ro_ HO522.out))) (Kd.R_lt (ro_ HO529.out))) (Kd.R_lt (ro_ HO532.out))) (Kd.R_lt (ro_ HO540.out))) (Kd.R_lt (ro_ HO543.out))) (Kd.R_lt (ro_ HO551.out))) (Kd.R_lt (ro_ HO554.out))) (Kd.R_lt (ro_ HO563.out))) (Kd.R_lt (ro_ HO566.out))) (below_size (bw4_ HB.out GE512.out GE513.out GE547.out GE558.out)))
      replace HO519 := sd_ (Kd.R_mono (Kd.R_told (Kd.R_told (Kd.R_old (ro_ HO519.out) hb) (Kd.R_base ho0)) (Kd.R_base ho1)) (fun _ h_ => h_.1))
      replace HO522 := sd_ (Kd.R_mono (Kd.R_told (Kd.R_told (Kd.R_old (ro_ HO522.out) hb) (Kd.R_base ho0)) (Kd.R_base ho1)) (fun _ h_ => h_.1))
      replace HO529 := sd_ (Kd.R_mono (Kd.R_told (Kd.R_told (Kd.R_old (ro_ HO529.out) hb) (Kd.R_base ho0)) (Kd.R_base ho1)) (fun _ h_ => h_.1))
      replace HO532 := sd_ (Kd.R_mono (Kd.R_told (Kd.R_told (Kd.R_old (ro_ HO532.out) hb) (Kd.R_base ho0)) (Kd.R_base ho1)) (fun _ h_ => h_.1))
      replace HO540 := sd_ (Kd.R_mono (Kd.R_told (Kd.R_told (Kd.R_old (ro_ HO540.out) hb) (Kd.R_base ho0)) (Kd.R_base ho1)) (fun _ h_ => h_.1))
      replace HO543 := sd_ (Kd.R_mono (Kd.R_told (Kd.R_told (Kd.R_old (ro_ HO543.out) hb) (Kd.R_base ho0)) (Kd.R_base ho1)) (fun _ h_ => h_.1))
      replace HO551 := sd_ (Kd.R_mono (Kd.R_told (Kd.R_told (Kd.R_old (ro_ HO551.out) hb) (Kd.R_base ho0)) (Kd.R_base ho1)) (fun _ h_ => h_.1))
      replace HO554 := sd_ (Kd.R_mono (Kd.R_told (Kd.R_told (Kd.R_old (ro_ HO554.out) hb) (Kd.R_base ho0)) (Kd.R_base ho1)) (fun _ h_ => h_.1))
      replace HO563 := sd_ (Kd.R_mono (Kd.R_told (Kd.R_told (Kd.R_old (ro_ HO563.out) hb) (Kd.R_base ho0)) (Kd.R_base ho1)) (fun _ h_ => h_.1))
      replace HO566 := sd_ (Kd.R_mono (Kd.R_told (Kd.R_told (Kd.R_old (ro_ HO566.out) hb) (Kd.R_base ho0)) (Kd.R_base ho1)) (fun _ h_ => h_.1))
      have HO580 := sd_ (Kd.R_lower (Kd.R_new' (Kd.R_new' (Kd.R_new' (Kd.R_new' (Kd.R_new' ho2 (Kd.R_lt (ro_ HO525.out))) (Kd.R_lt (ro_ HO535.out))) (Kd.R_lt (ro_ HO546.out))) (Kd.R_lt (ro_ HO557.out))) (Kd.R_lt (ro_ HO569.out))) (below_size (bw4_ HB.out GE512.out GE513.out GE547.out GE558.out)))
      replace HO525 := sd_ (Kd.R_elder' (ro_ HO525.out) (Kd.R_base ho2) hb)
      replace HO535 := sd_ (Kd.R_elder' (ro_ HO535.out) (Kd.R_base ho2) hb)
      replace HO546 := sd_ (Kd.R_elder' (ro_ HO546.out) (Kd.R_base ho2) hb)
      replace HO557 := sd_ (Kd.R_elder' (ro_ HO557.out) (Kd.R_base ho2) hb)
      replace HO569 := sd_ (Kd.R_elder' (ro_ HO569.out) (Kd.R_base ho2) hb)
      replace BK512 := sd_ (bb_ BK512.out hb)
      replace BK513 := sd_ (bb_ BK513.out hb)
      replace BK547 := sd_ (bb_ BK547.out hb)
      replace BK558 := sd_ (bb_ BK558.out hb)
      replace HB := sd_ (below_step (bw4_ HB.out GE512.out GE513.out GE547.out GE558.out) hb)
      (try clear hb)
      (try clear hb2)
      (try clear hk)
      (try clear hi)
      (try clear ho0)
      (try clear ho1)
      (try clear ho2)
      obtain ⟨Ao80, co80, eo80⟩ := Kd.R_slice HO574.out
      (first | subst eo80 | (injection eo80 with f1_ f2_ f3_; have f4_ := f1_.symm; have f5_ := f3_.symm; clear f1_ f2_ f3_; subst f4_; subst f5_))
      obtain ⟨Ao81, co81, eo81⟩ := Kd.R_slice HO577.out
      (first | subst eo81 | (injection eo81 with f1_ f2_ f3_; have f4_ := f1_.symm; have f5_ := f3_.symm; clear f1_ f2_ f3_; subst f4_; subst f5_))
      obtain ⟨Ao82, co82, eo82⟩ := Kd.R_slice HO580.out
      (first | subst eo82 | (injection eo82 with f1_ f2_ f3_; have f4_ := f1_.symm; have f5_ := f3_.symm; clear f1_ f2_ f3_; subst f4_; subst f5_))
      refine hK.out _ _ ⟨(blk_cell BK558.out 0).trans rfl, (blk_cell BK558.out 1).trans rfl, (blk_cell BK558.out 2).trans rfl, (blk_cell BK558.out 3).trans rfl, (blk_cell BK513.out 0).trans rfl, (blk_cell BK513.out 1).trans rfl, (blk_cell BK513.out 2).trans rfl, (blk_cell BK513.out 3).trans rfl⟩ (fun hHeld => ?_)
      clear hK K
      refine norm_ (a' := ?_) ?_ ?_
      rotate_left
      ·show Act.put _ (some 50) _ = _
       simp only [Act.put, List.setIfInBounds_toArray, List.set_cons_zero, List.set_cons_succ, i64_w, i32_w]
       rfl
      refine one_ (i := 3) (N := some 51) #[true, true, true, true, false] rfl rfl (by kernel_rfl) (by decide) (fun K hK => ?_)
      refine goes_ Try.func25 (by kernel_rfl) rfl #[.agg #[.int .i64 t548, .slice Ao67 t549.length co67, .slice Ao68 t552.length co68, .slice Ao69 t555.length co69], .agg #[.int .i64 t571, .slice Ao80 t572.length co80, .slice Ao81 t575.length co81, .slice Ao82 t578.length co82]] (by rfl) rfl rfl (by (try simp only [List.map_toArray, List.map_cons, List.map_nil]); first | done | rfl | (simp only [List.length_drop, List.length_take]; rfl)) ?_
      with_reducible refine (laws_eqSystem.calls k t548 _ _ t549 _ _ t552 _ _ t555 t571 _ _ t572 _ _ t575 _ _ t578 true _ ?side1 ?side2 ?side3 ?side4 ?side5 ?side6 ?side7 ?side8 ?side9 ?side10 ?side11 ?side12 A32.out).mono ?_
      (case side1 => exact kp_ (Kd.R_reads' HO551.out).2.2)
      (case side2 => exact (Kd.R_reads' HO551.out).2.1)
      (case side3 => exact kp_ (Kd.R_reads' HO554.out).2.2)
      (case side4 => exact (Kd.R_reads' HO554.out).2.1)
      (case side5 => exact kp_ (Kd.R_reads' HO557.out).2.2)
      (case side6 => exact (Kd.R_reads' HO557.out).2.1)
      (case side7 => exact kp_ (Kd.R_reads' HO574.out).2.2)
      (case side8 => exact (Kd.R_reads' HO574.out).2.1)
      (case side9 => exact kp_ (Kd.R_reads' HO577.out).2.2)
      (case side10 => exact (Kd.R_reads' HO577.out).2.1)
      (case side11 => exact kp_ (Kd.R_reads' HO580.out).2.2)
      (case side12 => exact (Kd.R_reads' HO580.out).2.1)
      rintro e w83 ⟨rfl, hb⟩
      refine ⟨_, rfl, ?_⟩
      replace HO519 := sd_ (Kd.R_below (ro_ HO519.out) hb)
      replace HO522 := sd_ (Kd.R_below (ro_ HO522.out) hb)
      replace HO525 := sd_ (Kd.R_below (ro_ HO525.out) hb)
      replace HO529 := sd_ (Kd.R_below (ro_ HO529.out) hb)
      replace HO532 := sd_ (Kd.R_below (ro_ HO532.out) hb)
      replace HO535 := sd_ (Kd.R_below (ro_ HO535.out) hb)
      replace HO540 := sd_ (Kd.R_below (ro_ HO540.out) hb)
      replace HO543 := sd_ (Kd.R_below (ro_ HO543.out) hb)
      replace HO546 := sd_ (Kd.R_below (ro_ HO546.out) hb)
      replace HO551 := sd_ (Kd.R_below (ro_ HO551.out) hb)
      replace HO554 := sd_ (Kd.R_below (ro_ HO554.out) hb)
      replace HO557 := sd_ (Kd.R_below (ro_ HO557.out) hb)
      replace HO563 := sd_ (Kd.R_below (ro_ HO563.out) hb)
      replace HO566 := sd_ (Kd.R_below (ro_ HO566.out) hb)
      replace HO569 := sd_ (Kd.R_below (ro_ HO569.out) hb)
      replace HO574 := sd_ (Kd.R_below (ro_ HO574.out) hb)
      replace HO577 := sd_ (Kd.R_below (ro_ HO577.out) hb)
      replace HO580 := sd_ (Kd.R_below (ro_ HO580.out) hb)
      replace BK512 := sd_ (bb_ BK512.out hb)
      replace BK513 := sd_ (bb_ BK513.out hb)
      replace BK547 := sd_ (bb_ BK547.out hb)
      replace BK558 := sd_ (bb_ BK558.out hb)
      replace HB := sd_ (below_step (bw4_ HB.out GE512.out GE513.out GE547.out GE558.out) hb)
      (try clear hb)
      (try clear hb2)
      (try clear hk)
      (try clear hi)
      refine hK.out _ _ ⟨(blk_cell BK558.out 0).trans rfl, (blk_cell BK558.out 1).trans rfl, (blk_cell BK558.out 2).trans rfl, (blk_cell BK558.out 3).trans rfl, (blk_cell BK513.out 0).trans rfl, (blk_cell BK513.out 1).trans rfl, (blk_cell BK513.out 2).trans rfl, (blk_cell BK513.out 3).trans rfl⟩ (fun hHeld => ?_)
      clear hK K
      refine norm_ (a' := ?_) ?_ ?_
      rotate_left
      ·show Act.put _ (some 51) _ = _
       simp only [Act.put, List.setIfInBounds_toArray, List.set_cons_zero, List.set_cons_succ, i64_w, i32_w]
       rfl
      refine pure_ (i := 4) (N := some 52) (v := ?_) (a' := ?_) #[true, true, true, true, true] rfl rfl (by kernel_rfl) (fun _ _ _ h => h) (Or.inl ⟨by rfl, ?_⟩) ?_ ?_
      rotate_left
      ·intro w'
       go_simp
       with_reducible rfl
      rotate_left
      ·simp only [Act.put, List.setIfInBounds_toArray, List.set_cons_zero, List.set_cons_succ, i64_w, i32_w]
       rfl
      refine done_ (by kernel_rfl) ?_
      try go_wp2
      go_ret
      exact ⟨by first | rfl | (simp [errW_none, errW_some] <;> rfl) | (simp [*, errW_none, errW_some] <;> rfl), bw4_ HB.out GE512.out GE513.out GE547.out GE558.out⟩
     ·replace c33 := Bool.eq_false_iff.mpr c33
      subst c33
      have H1 : (some false) = some r := by rw [if_neg (show ¬ (false = true) by decide)] at H; exact H
      clear H
      have H := H1
      clear H1
      obtain rfl := Option.some.inj H
      exact absurd hr_ (by decide)
    ·replace c30 := Bool.eq_false_iff.mpr c30
     subst c30
     have H1 : (some false) = some r := by rw [if_neg (show ¬ (false = true) by decide)] at H; exact H
     clear H
     have H := H1
     clear H1
     obtain rfl := Option.some.inj H
     exact absurd hr_ (by decide)
   ·rw [if_neg c27] at H
    have c27b0 : (t559 == t536) = false := beq_eq_false_iff_ne.mpr c27
    have c27b1 : (t559 != t536) = true := bne_iff_ne.mpr c27
    obtain rfl := Option.some.inj H
    exact absurd hr_ (by decide)

def laws_FnExactPairGrades.Pure : Prop := ∀ (a0_0 : Int) (l0_1 : List Int) (l0_2 : List Int) (l0_3 : List Bool) (a1_0 : Int) (l1_1 : List Int) (l1_2 : List Int) (l1_3 : List Bool) (a2 : Int) (a3 : Int), (Lit.int .i64 a0_0).wf = true → ((∀ z ∈ l0_1, (Lit.int .i64 z).wf = true) ∧ l0_1.length ≤ maxLen) → ((∀ z ∈ l0_2, (Lit.int .i64 z).wf = true) ∧ l0_2.length ≤ maxLen) → ((∀ z ∈ l0_3, True) ∧ l0_3.length ≤ maxLen) → (Lit.int .i64 a1_0).wf = true → ((∀ z ∈ l1_1, (Lit.int .i64 z).wf = true) ∧ l1_1.length ≤ maxLen) → ((∀ z ∈ l1_2, (Lit.int .i64 z).wf = true) ∧ l1_2.length ≤ maxLen) → ((∀ z ∈ l1_3, True) ∧ l1_3.length ≤ maxLen) → (Lit.int .i64 a2).wf = true → (Lit.int .i64 a3).wf = true → ∃ k, laws_FnExactPairGrades.f k a0_0 l0_1 l0_2 l0_3 a1_0 l1_1 l1_2 l1_3 a2 a3 = some true

end Go.Proofs.Ytcdmnofomoadlaa.P
