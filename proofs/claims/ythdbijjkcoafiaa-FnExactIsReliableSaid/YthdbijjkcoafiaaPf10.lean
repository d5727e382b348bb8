-- Printed by this session's own program (wip/tools/mkprint.py) out of the translation. Not trusted: Lean checks it.
import Derived.Test.YthdbijjkcoafiaaP0
import Derived.Test.YthdbijjkcoafiaaPf15
import Derived.Test.YthdbijjkcoafiaaPf17
import Derived.Test.YthdbijjkcoafiaaPf19
import Derived.Test.YthdbijjkcoafiaaPf32
import Derived.Test.YthdbijjkcoafiaaPf33
namespace Go.Proofs.Ythdbijjkcoafiaa.P
open Go.RowKit Go.Proofs.YthdbijjkcoafiaaW.PrintWords Go.Proofs.YthdbijjkcoafiaaW.PrintLast Go.Proofs.YthdbijjkcoafiaaW.PrintMore
attribute [local go_sem] max2_int min2_int max_two min_two max_three min_three max_four min_four   -- for this text's walks alone
set_option linter.unusedVariables false
set_option linter.unusedSimpArgs false

/-! ### laws_FnExactIsReliable: function 10 -/
def laws_FnExactIsReliable.f (k : Nat) (a0_0 : Int) (l0_1 : List Int) (l0_2 : List Int) (l0_3 : List Bool) : Option (Bool) := (laws_szSystem.f a0_0 l0_1 l0_2 l0_3 1048576).bind fun t579 => (if t579 < 0 then (some true) else ((laws_toSystem.f k a0_0 l0_1 l0_2 l0_3).bind fun bt580 => ((spec_IsReliable.f k bt580.1 bt580.2.1 bt580.2.2.1 bt580.2.2.2).bind fun t590 => ((laws_toSystem.f k a0_0 l0_1 l0_2 l0_3).bind fun bt591 => ((impl_IsReliable.f k bt591.1 bt591.2.1 bt591.2.2.1 bt591.2.2.2).bind fun t602 => (if (t602 != t590) = true then (some false) else ((laws_toSystem.f k a0_0 l0_1 l0_2 l0_3).bind fun bt603 => ((laws_eqSystem.f k bt591.1 bt591.2.1 bt591.2.2.1 bt591.2.2.2 bt603.1 bt603.2.1 bt603.2.2.1 bt603.2.2.2).bind fun t613 => (if t613 = true then (some true) else (some false))))))))))
set_option maxHeartbeats 8000000 in
set_option maxRecDepth 100000 in
theorem laws_FnExactIsReliable.calls (k : Nat) (a0_0 : Int) (A0_1 : Option Addr) (c0_1 : Nat) (l0_1 : List Int) (A0_2 : Option Addr) (c0_2 : Nat) (l0_2 : List Int) (A0_3 : Option Addr) (c0_3 : Nat) (l0_3 : List Bool) (r : Bool) (w : World) (hr0_1 : Kd.C (Kd.int .i64) w A0_1 l0_1.length l0_1) (hc0_1 : l0_1.length ≤ c0_1) (hr0_2 : Kd.C (Kd.int .i64) w A0_2 l0_2.length l0_2) (hc0_2 : l0_2.length ≤ c0_2) (hr0_3 : Kd.C Kd.bool w A0_3 l0_3.length l0_3) (hc0_3 : l0_3.length ≤ c0_3) (h : laws_FnExactIsReliable.f k a0_0 l0_1 l0_2 l0_3 = some r) (hr_ : r = true) :
    Calls Try.prog 10 #[.agg #[.int .i64 a0_0, .slice A0_1 l0_1.length c0_1, .slice A0_2 l0_2.length c0_2, .slice A0_3 l0_3.length c0_3]] w fun e w' => e = .returned (.bool r) ∧ Below w.heap.size w w' := by
  have hu25 := Try.underlying25
  have hu28 := Try.underlying28
  have HR0_1 := Aside0.mk hr0_1
  have HC0_1 := Aside0.mk hc0_1
  clear hr0_1 hc0_1
  have HR0_2 := Aside0.mk hr0_2
  have HC0_2 := Aside0.mk hc0_2
  clear hr0_2 hc0_2
  have HR0_3 := Aside0.mk hr0_3
  have HC0_3 := Aside0.mk hc0_3
  clear hr0_3 hc0_3
  have HB := Aside0.mk (Below.refl w.heap.size w)
  have H : ((laws_szSystem.f a0_0 l0_1 l0_2 l0_3 1048576).bind fun t579 => (if t579 < 0 then (some true) else ((laws_toSystem.f k a0_0 l0_1 l0_2 l0_3).bind fun bt580 => ((spec_IsReliable.f k bt580.1 bt580.2.1 bt580.2.2.1 bt580.2.2.2).bind fun t590 => ((laws_toSystem.f k a0_0 l0_1 l0_2 l0_3).bind fun bt591 => ((impl_IsReliable.f k bt591.1 bt591.2.1 bt591.2.2.1 bt591.2.2.2).bind fun t602 => (if (t602 != t590) = true then (some false) else ((laws_toSystem.f k a0_0 l0_1 l0_2 l0_3).bind fun bt603 => ((laws_eqSystem.f k bt591.1 bt591.2.1 bt591.2.2.1 bt591.2.2.2 bt603.1 bt603.2.1 bt603.2.2.1 bt603.2.2.2).bind fun t613 => (if t613 = true then (some true) else (some false))))))))))) = some r := h
  clear h
  replace H := Option.bind_eq_some_iff.mp H
  obtain ⟨t579, A20, H⟩ := H
  replace H : (if t579 < 0 then (some true) else ((laws_toSystem.f k a0_0 l0_1 l0_2 l0_3).bind fun bt580 => ((spec_IsReliable.f k bt580.1 bt580.2.1 bt580.2.2.1 bt580.2.2.2).bind fun t590 => ((laws_toSystem.f k a0_0 l0_1 l0_2 l0_3).bind fun bt591 => ((impl_IsReliable.f k bt591.1 bt591.2.1 bt591.2.2.1 bt591.2.2.2).bind fun t602 => (if (t602 != t590) = true then (some false) else ((laws_toSystem.f k a0_0 l0_1 l0_2 l0_3).bind fun bt603 => ((laws_eqSystem.f k bt591.1 bt591.2.1 bt591.2.2.1 bt591.2.2.2 bt603.1 bt603.2.1 bt603.2.2.1 bt603.2.2.2).bind fun t613 => (if t613 = true then (some true) else (some false)))))))))) = some r := H
  have A2 := Aside0.mk A20
  clear A20
  by_cases c3 : t579 < 0
  · rw [if_pos c3] at H
    have c3b0 : decide (t579 < 0) = true := decide_eq_true c3
    clear c3
    obtain rfl := Option.some.inj H
    go_enter Try.func10, Try.ntmps10
    go_wp2_with (first | ((with_reducible refine gate_dst (N := 1) rfl ?_); refine box_event ?hg (N := 1) ?hd (cs := #[.int .i64 a0_0, .slice A0_1 l0_1.length c0_1, .slice A0_2 l0_2.length c0_2, .slice A0_3 l0_3.length c0_3]) (t := 25) ?hr ?_; (case hd => rfl); (case hg => rfl); (case hr => first | (go_simp; done) | (go_simp; rfl)); intro gb578 hg w4 hbox hb; have n0_ := Aside0.mk (below_step (by repeat (first | (with_reducible first | exact HB.out | apply below_alloc | apply pw_below_drewN | apply below_drew1) | exact HB.out)) hb); have n1_ := Aside0.mk (hbox); have n2_ := Aside0.mk ((by rw [hg]; exact (below_size (by repeat (first | (with_reducible first | exact HB.out | apply below_alloc | apply pw_below_drewN | apply below_drew1) | exact HB.out))) : w.heap.size ≤ gb578)); have n3_ := Aside0.mk ((by rw [hg]; exact (below_size (by repeat (first | (with_reducible first | exact HB.out | apply below_alloc | apply pw_below_drewN | apply below_drew1) | exact HB.out))) : w.heap.size ≤ gb578)); clear HB; have HB := n0_; have BK578 := n1_; have GW578 := n2_; have GE578 := n3_; clear n0_ n1_ n2_ n3_; clear hb hbox hg; have hcz5_0 : w4.cell? ⟨gb578, 0, none⟩ = some (.int .i64 a0_0) := (blk_cell BK578.out 0).trans rfl; have hcz5_1 : w4.cell? ⟨gb578, 1, none⟩ = some (.slice A0_1 l0_1.length c0_1) := (blk_cell BK578.out 1).trans rfl; have hcz5_2 : w4.cell? ⟨gb578, 2, none⟩ = some (.slice A0_2 l0_2.length c0_2) := (blk_cell BK578.out 2).trans rfl; have hcz5_3 : w4.cell? ⟨gb578, 3, none⟩ = some (.slice A0_3 l0_3.length c0_3) := (blk_cell BK578.out 3).trans rfl; have hfz5_0 := blk_frozen BK578.out 0; have hfz5_1 := blk_frozen BK578.out 1; have hfz5_2 := blk_frozen BK578.out 2; have hfz5_3 := blk_frozen BK578.out 3) | ((with_reducible refine gate_callee (f := 15) rfl ?_); refine goesL_ (some 9) rfl rfl Try.func15 (by kernel_rfl) rfl #[.agg #[.int .i64 a0_0, .slice A0_1 l0_1.length c0_1, .slice A0_2 l0_2.length c0_2, .slice A0_3 l0_3.length c0_3], .int .i64 1048576] rfl (by (try simp only [List.map_toArray, List.map_cons, List.map_nil]); first | done | rfl | (simp only [List.length_drop, List.length_take]; rfl)) ?_; (with_reducible refine (laws_szSystem.calls a0_0 _ _ l0_1 _ _ l0_2 _ _ l0_3 1048576 t579 _ ?side1 ?side2 ?side3 ?side4 ?side5 ?side6 A2.out).mono ?_); (case side1 => repeat (first | exact (Kd.C_below HR0_1.out HB.out) | (with_reducible refine Kd.C_alloc ?_ _) | (with_reducible refine Kd.C_drewN ?_ _) | (with_reducible refine Kd.C_drew ?_))); (case side2 => exact HC0_1.out); (case side3 => repeat (first | exact (Kd.C_below HR0_2.out HB.out) | (with_reducible refine Kd.C_alloc ?_ _) | (with_reducible refine Kd.C_drewN ?_ _) | (with_reducible refine Kd.C_drew ?_))); (case side4 => exact HC0_2.out); (case side5 => repeat (first | exact (Kd.C_below HR0_3.out HB.out) | (with_reducible refine Kd.C_alloc ?_ _) | (with_reducible refine Kd.C_drewN ?_ _) | (with_reducible refine Kd.C_drew ?_))); (case side6 => exact HC0_3.out); rintro e w6 ⟨rfl, hb⟩; refine ⟨_, rfl, ?_⟩; have n0_ := Aside0.mk (blk_below (g := gb578) (o := .cells #[.int .i64 a0_0, .slice A0_1 l0_1.length c0_1, .slice A0_2 l0_2.length c0_2, .slice A0_3 l0_3.length c0_3] 25 (0, 0)) (by (with_reducible repeat (first | refine blk_drewN ?_ _ | refine blk_drew ?_ | refine blk_alloc ?_ _)); exact BK578.out) hb); have n1_ := Aside0.mk (below_step (by repeat (first | (with_reducible first | exact HB.out | apply below_alloc | apply pw_below_drewN | apply below_drew1 | refine below_set ?_ GE578.out) | exact HB.out)) hb); clear BK578; clear HB; have BK578 := n0_; have HB := n1_; clear n0_ n1_; (try clear hb); (try clear hb2); (try clear hk); (try clear hi)))
    go_ret
    exact ⟨by first | rfl | (simp [errW_none, errW_some] <;> rfl) | (simp [*, errW_none, errW_some] <;> rfl), by repeat (first | (with_reducible first | exact HB.out | apply below_alloc | apply pw_below_drewN | apply below_drew1 | refine below_set ?_ GE578.out) | exact HB.out)⟩
  · rw [if_neg c3] at H
    have c3b0 : decide (t579 < 0) = false := decide_eq_false c3
    clear c3
    replace H := Option.bind_eq_some_iff.mp H
    obtain ⟨⟨t580, t581, t584, t587⟩, A70, H⟩ := H
    replace H : ((spec_IsReliable.f k t580 t581 t584 t587).bind fun t590 => ((laws_toSystem.f k a0_0 l0_1 l0_2 l0_3).bind fun bt591 => ((impl_IsReliable.f k bt591.1 bt591.2.1 bt591.2.2.1 bt591.2.2.2).bind fun t602 => (if (t602 != t590) = true then (some false) else ((laws_toSystem.f k a0_0 l0_1 l0_2 l0_3).bind fun bt603 => ((laws_eqSystem.f k bt591.1 bt591.2.1 bt591.2.2.1 bt591.2.2.2 bt603.1 bt603.2.1 bt603.2.2.1 bt603.2.2.2).bind fun t613 => (if t613 = true then (some true) else (some false)))))))) = some r := H
    have A7 := Aside0.mk A70
    clear A70
    replace H := Option.bind_eq_some_iff.mp H
    obtain ⟨t590, A80, H⟩ := H
    replace H : ((laws_toSystem.f k a0_0 l0_1 l0_2 l0_3).bind fun bt591 => ((impl_IsReliable.f k bt591.1 bt591.2.1 bt591.2.2.1 bt591.2.2.2).bind fun t602 => (if (t602 != t590) = true then (some false) else ((laws_toSystem.f k a0_0 l0_1 l0_2 l0_3).bind fun bt603 => ((laws_eqSystem.f k bt591.1 bt591.2.1 bt591.2.2.1 bt591.2.2.2 bt603.1 bt603.2.1 bt603.2.2.1 bt603.2.2.2).bind fun t613 => (if t613 = true then (some true) else (some false))))))) = some r := H
    have A8 := Aside0.mk A80
    clear A80
    replace H := Option.bind_eq_some_iff.mp H
    obtain ⟨⟨t591, t592, t595, t598⟩, A90, H⟩ := H
    replace H : ((impl_IsReliable.f k t591 t592 t595 t598).bind fun t602 => (if (t602 != t590) = true then (some false) else ((laws_toSystem.f k a0_0 l0_1 l0_2 l0_3).bind fun bt603 => ((laws_eqSystem.f k t591 t592 t595 t598 bt603.1 bt603.2.1 bt603.2.2.1 bt603.2.2.2).bind fun t613 => (if t613 = true then (some true) else (some false)))))) = some r := H
    have A9 := Aside0.mk A90
    clear A90
    replace H := Option.bind_eq_some_iff.mp H
    obtain ⟨t602, A100, H⟩ := H
    replace H : (if (t602 != t590) = true then (some false) else ((laws_toSystem.f k a0_0 l0_1 l0_2 l0_3).bind fun bt603 => ((laws_eqSystem.f k t591 t592 t595 t598 bt603.1 bt603.2.1 bt603.2.2.1 bt603.2.2.2).bind fun t613 => (if t613 = true then (some true) else (some false))))) = some r := H
    have A10 := Aside0.mk A100
    clear A100
    by_cases c11 : (t602 != t590) = true
    · rw [if_pos c11] at H
      have c11b0 : (t602 != t590) = true := c11
      (try (have c11b1 : decide (t602 = t590) = false := by simpa using c11))
      (try (have c11b2 : (t602 == t590) = false := by simpa using c11))
      (try (have c11b3 : ¬ (t602 = t590) := by simpa using c11))
      clear c11
      obtain rfl := Option.some.inj H
      exact absurd hr_ (by decide)
    · rw [if_neg c11] at H
      have c11b0 : (t602 != t590) = false := by simpa using c11
      (try (have c11b1 : decide (t602 = t590) = true := by simpa using c11))
      (try (have c11b2 : (t602 == t590) = true := by simpa using c11))
      clear c11
      replace H := Option.bind_eq_some_iff.mp H
      obtain ⟨⟨t603, t604, t607, t610⟩, A120, H⟩ := H
      replace H : ((laws_eqSystem.f k t591 t592 t595 t598 t603 t604 t607 t610).bind fun t613 => (if t613 = true then (some true) else (some false))) = some r := H
      have A12 := Aside0.mk A120
      clear A120
      replace H := Option.bind_eq_some_iff.mp H
      obtain ⟨t613, A130, H⟩ := H
      replace H : (if t613 = true then (some true) else (some false)) = some r := H
      have A13 := Aside0.mk A130
      clear A130
      by_cases c14 : t613 = true
      · subst c14
        have H1 : (some true) = some r := by rw [if_pos rfl] at H; exact H
        clear H
        have H := H1
        clear H1
        obtain rfl := Option.some.inj H
        go_enter Try.func10, Try.ntmps10
        try go_wp2_with (first | ((with_reducible refine gate_dst (N := 1) rfl ?_); refine box_event ?hg (N := 1) ?hd (cs := #[.int .i64 a0_0, .slice A0_1 l0_1.length c0_1, .slice A0_2 l0_2.length c0_2, .slice A0_3 l0_3.length c0_3]) (t := 25) ?hr ?_; (case hd => rfl); (case hg => rfl); (case hr => first | (go_simp; done) | (go_simp; rfl)); intro gb578 hg w15 hbox hb; have n0_ := Aside0.mk (below_step (by repeat (first | (with_reducible first | exact HB.out | apply below_alloc | apply pw_below_drewN | apply below_drew1) | exact HB.out)) hb); have n1_ := Aside0.mk (hbox); have n2_ := Aside0.mk ((by rw [hg]; exact (below_size (by repeat (first | (with_reducible first | exact HB.out | apply below_alloc | apply pw_below_drewN | apply below_drew1) | exact HB.out))) : w.heap.size ≤ gb578)); have n3_ := Aside0.mk ((by rw [hg]; exact (below_size (by repeat (first | (with_reducible first | exact HB.out | apply below_alloc | apply pw_below_drewN | apply below_drew1) | exact HB.out))) : w.heap.size ≤ gb578)); clear HB; have HB := n0_; have BK578 := n1_; have GW578 := n2_; have GE578 := n3_; clear n0_ n1_ n2_ n3_; clear hb hbox hg; have hcz16_0 : w15.cell? ⟨gb578, 0, none⟩ = some (.int .i64 a0_0) := (blk_cell BK578.out 0).trans rfl; have hcz16_1 : w15.cell? ⟨gb578, 1, none⟩ = some (.slice A0_1 l0_1.length c0_1) := (blk_cell BK578.out 1).trans rfl; have hcz16_2 : w15.cell? ⟨gb578, 2, none⟩ = some (.slice A0_2 l0_2.length c0_2) := (blk_cell BK578.out 2).trans rfl; have hcz16_3 : w15.cell? ⟨gb578, 3, none⟩ = some (.slice A0_3 l0_3.length c0_3) := (blk_cell BK578.out 3).trans rfl; have hfz16_0 := blk_frozen BK578.out 0; have hfz16_1 := blk_frozen BK578.out 1; have hfz16_2 := blk_frozen BK578.out 2; have hfz16_3 := blk_frozen BK578.out 3) | ((with_reducible refine gate_callee (f := 15) rfl ?_); refine goesL_ (some 9) rfl rfl Try.func15 (by kernel_rfl) rfl #[.agg #[.int .i64 a0_0, .slice A0_1 l0_1.length c0_1, .slice A0_2 l0_2.length c0_2, .slice A0_3 l0_3.length c0_3], .int .i64 1048576] rfl (by (try simp only [List.map_toArray, List.map_cons, List.map_nil]); first | done | rfl | (simp only [List.length_drop, List.length_take]; rfl)) ?_; (with_reducible refine (laws_szSystem.calls a0_0 _ _ l0_1 _ _ l0_2 _ _ l0_3 1048576 t579 _ ?side1 ?side2 ?side3 ?side4 ?side5 ?side6 A2.out).mono ?_); (case side1 => repeat (first | exact (Kd.C_below HR0_1.out HB.out) | (with_reducible refine Kd.C_alloc ?_ _) | (with_reducible refine Kd.C_drewN ?_ _) | (with_reducible refine Kd.C_drew ?_))); (case side2 => exact HC0_1.out); (case side3 => repeat (first | exact (Kd.C_below HR0_2.out HB.out) | (with_reducible refine Kd.C_alloc ?_ _) | (with_reducible refine Kd.C_drewN ?_ _) | (with_reducible refine Kd.C_drew ?_))); (case side4 => exact HC0_2.out); (case side5 => repeat (first | exact (Kd.C_below HR0_3.out HB.out) | (with_reducible refine Kd.C_alloc ?_ _) | (with_reducible refine Kd.C_drewN ?_ _) | (with_reducible refine Kd.C_drew ?_))); (case side6 => exact HC0_3.out); rintro e w17 ⟨rfl, hb⟩; refine ⟨_, rfl, ?_⟩; have n0_ := Aside0.mk (blk_below (g := gb578) (o := .cells #[.int .i64 a0_0, .slice A0_1 l0_1.length c0_1, .slice A0_2 l0_2.length c0_2, .slice A0_3 l0_3.length c0_3] 25 (0, 0)) (by (with_reducible repeat (first | refine blk_drewN ?_ _ | refine blk_drew ?_ | refine blk_alloc ?_ _)); exact BK578.out) hb); have n1_ := Aside0.mk (below_step (by repeat (first | (with_reducible first | exact HB.out | apply below_alloc | apply pw_below_drewN | apply below_drew1 | refine below_set ?_ GE578.out) | exact HB.out)) hb); clear BK578; clear HB; have BK578 := n0_; have HB := n1_; clear n0_ n1_; (try clear hb); (try clear hb2); (try clear hk); (try clear hi); have hcz18_0 : w17.cell? ⟨gb578, 0, none⟩ = some (.int .i64 a0_0) := (blk_cell BK578.out 0).trans rfl; have hcz18_1 : w17.cell? ⟨gb578, 1, none⟩ = some (.slice A0_1 l0_1.length c0_1) := (blk_cell BK578.out 1).trans rfl; have hcz18_2 : w17.cell? ⟨gb578, 2, none⟩ = some (.slice A0_2 l0_2.length c0_2) := (blk_cell BK578.out 2).trans rfl; have hcz18_3 : w17.cell? ⟨gb578, 3, none⟩ = some (.slice A0_3 l0_3.length c0_3) := (blk_cell BK578.out 3).trans rfl; have hfz18_0 := blk_frozen BK578.out 0; have hfz18_1 := blk_frozen BK578.out 1; have hfz18_2 := blk_frozen BK578.out 2; have hfz18_3 := blk_frozen BK578.out 3) | ((with_reducible refine gate_callee (f := 17) rfl ?_); refine goesL_ (some 13) rfl rfl Try.func17 (by kernel_rfl) rfl #[.agg #[.int .i64 a0_0, .slice A0_1 l0_1.length c0_1, .slice A0_2 l0_2.length c0_2, .slice A0_3 l0_3.length c0_3]] rfl (by (try simp only [List.map_toArray, List.map_cons, List.map_nil]); first | done | rfl | (simp only [List.length_drop, List.length_take]; rfl)) ?_; (with_reducible refine (laws_toSystem.calls k a0_0 _ _ l0_1 _ _ l0_2 _ _ l0_3 t580 t581 t584 t587 _ ?side1 ?side2 ?side3 ?side4 ?side5 ?side6 A7.out).mono ?_); (case side1 => repeat (first | exact (Kd.C_below HR0_1.out HB.out) | (with_reducible refine Kd.C_alloc ?_ _) | (with_reducible refine Kd.C_drewN ?_ _) | (with_reducible refine Kd.C_drew ?_))); (case side2 => exact HC0_1.out); (case side3 => repeat (first | exact (Kd.C_below HR0_2.out HB.out) | (with_reducible refine Kd.C_alloc ?_ _) | (with_reducible refine Kd.C_drewN ?_ _) | (with_reducible refine Kd.C_drew ?_))); (case side4 => exact HC0_2.out); (case side5 => repeat (first | exact (Kd.C_below HR0_3.out HB.out) | (with_reducible refine Kd.C_alloc ?_ _) | (with_reducible refine Kd.C_drewN ?_ _) | (with_reducible refine Kd.C_drew ?_))); (case side6 => exact HC0_3.out); rintro e w19 ⟨v582, v585, v588, rfl, ho0, ho1, ho2, hb⟩; refine ⟨_, rfl, ?_⟩; have n0_ := Aside0.mk (Kd.R_lower ho0 (below_size (by repeat (first | (with_reducible first | exact HB.out | apply below_alloc | apply pw_below_drewN | apply below_drew1 | refine below_set ?_ GE578.out) | exact HB.out)))); have n1_ := Aside0.mk (Kd.R_lower ho1 (below_size (by repeat (first | (with_reducible first | exact HB.out | apply below_alloc | apply pw_below_drewN | apply below_drew1 | refine below_set ?_ GE578.out) | exact HB.out)))); have n2_ := Aside0.mk (Kd.R_lower ho2 (below_size (by repeat (first | (with_reducible first | exact HB.out | apply below_alloc | apply pw_below_drewN | apply below_drew1 | refine below_set ?_ GE578.out) | exact HB.out)))); have n3_ := Aside0.mk (blk_below (g := gb578) (o := .cells #[.int .i64 a0_0, .slice A0_1 l0_1.length c0_1, .slice A0_2 l0_2.length c0_2, .slice A0_3 l0_3.length c0_3] 25 (0, 0)) (by (with_reducible repeat (first | refine blk_drewN ?_ _ | refine blk_drew ?_ | refine blk_alloc ?_ _)); exact BK578.out) hb); have n4_ := Aside0.mk (below_step (by repeat (first | (with_reducible first | exact HB.out | apply below_alloc | apply pw_below_drewN | apply below_drew1 | refine below_set ?_ GE578.out) | exact HB.out)) hb); clear BK578; clear HB; have HO583 := n0_; have HO586 := n1_; have HO589 := n2_; have BK578 := n3_; have HB := n4_; clear n0_ n1_ n2_ n3_ n4_; (try clear hb); (try clear hb2); (try clear hk); (try clear hi); (try clear ho0); (try clear ho1); (try clear ho2); obtain ⟨Ao20, co20, eo20⟩ := Kd.R_slice HO583.out; subst eo20; obtain ⟨Ao21, co21, eo21⟩ := Kd.R_slice HO586.out; subst eo21; obtain ⟨Ao22, co22, eo22⟩ := Kd.R_slice HO589.out; subst eo22) | ((with_reducible refine gate_callee (f := 32) rfl ?_); refine goesL_ (some 14) rfl rfl Try.func32 (by kernel_rfl) rfl #[.agg #[.int .i64 t580, .slice Ao20 t581.length co20, .slice Ao21 t584.length co21, .slice Ao22 t587.length co22]] rfl (by (try simp only [List.map_toArray, List.map_cons, List.map_nil]); first | done | rfl | (simp only [List.length_drop, List.length_take]; rfl)) ?_; (with_reducible refine (spec_IsReliable.calls k t580 _ _ t581 _ _ t584 _ _ t587 t590 _ ?side1 ?side2 ?side3 ?side4 ?side5 ?side6 A8.out).mono ?_); (case side1 => repeat (first | exact (Kd.R_reads' HO583.out).2.2 | (with_reducible refine Kd.C_alloc ?_ _) | (with_reducible refine Kd.C_drewN ?_ _) | (with_reducible refine Kd.C_drew ?_))); (case side2 => exact (Kd.R_reads' HO583.out).2.1); (case side3 => repeat (first | exact (Kd.R_reads' HO586.out).2.2 | (with_reducible refine Kd.C_alloc ?_ _) | (with_reducible refine Kd.C_drewN ?_ _) | (with_reducible refine Kd.C_drew ?_))); (case side4 => exact (Kd.R_reads' HO586.out).2.1); (case side5 => repeat (first | exact (Kd.R_reads' HO589.out).2.2 | (with_reducible refine Kd.C_alloc ?_ _) | (with_reducible refine Kd.C_drewN ?_ _) | (with_reducible refine Kd.C_drew ?_))); (case side6 => exact (Kd.R_reads' HO589.out).2.1); rintro e w23 ⟨rfl, hb⟩; refine ⟨_, rfl, ?_⟩; have n0_ := Aside0.mk (Kd.R_below (by (with_reducible repeat (first | apply Kd.R_alloc | apply Kd.R_drewN | apply Kd.R_drew)); exact HO583.out) hb); have n1_ := Aside0.mk (Kd.R_below (by (with_reducible repeat (first | apply Kd.R_alloc | apply Kd.R_drewN | apply Kd.R_drew)); exact HO586.out) hb); have n2_ := Aside0.mk (Kd.R_below (by (with_reducible repeat (first | apply Kd.R_alloc | apply Kd.R_drewN | apply Kd.R_drew)); exact HO589.out) hb); have n3_ := Aside0.mk (blk_below (g := gb578) (o := .cells #[.int .i64 a0_0, .slice A0_1 l0_1.length c0_1, .slice A0_2 l0_2.length c0_2, .slice A0_3 l0_3.length c0_3] 25 (0, 0)) (by (with_reducible repeat (first | refine blk_drewN ?_ _ | refine blk_drew ?_ | refine blk_alloc ?_ _)); exact BK578.out) hb); have n4_ := Aside0.mk (below_step (by repeat (first | (with_reducible first | exact HB.out | apply below_alloc | apply pw_below_drewN | apply below_drew1 | refine below_set ?_ GE578.out) | exact HB.out)) hb); clear HO583; clear HO586; clear HO589; clear BK578; clear HB; have HO583 := n0_; have HO586 := n1_; have HO589 := n2_; have BK578 := n3_; have HB := n4_; clear n0_ n1_ n2_ n3_ n4_; (try clear hb); (try clear hb2); (try clear hk); (try clear hi); have hcz24_0 : w23.cell? ⟨gb578, 0, none⟩ = some (.int .i64 a0_0) := (blk_cell BK578.out 0).trans rfl; have hcz24_1 : w23.cell? ⟨gb578, 1, none⟩ = some (.slice A0_1 l0_1.length c0_1) := (blk_cell BK578.out 1).trans rfl; have hcz24_2 : w23.cell? ⟨gb578, 2, none⟩ = some (.slice A0_2 l0_2.length c0_2) := (blk_cell BK578.out 2).trans rfl; have hcz24_3 : w23.cell? ⟨gb578, 3, none⟩ = some (.slice A0_3 l0_3.length c0_3) := (blk_cell BK578.out 3).trans rfl; have hfz24_0 := blk_frozen BK578.out 0; have hfz24_1 := blk_frozen BK578.out 1; have hfz24_2 := blk_frozen BK578.out 2; have hfz24_3 := blk_frozen BK578.out 3) | ((with_reducible refine gate_callee (f := 17) rfl ?_); refine goesL_ (some 16) rfl rfl Try.func17 (by kernel_rfl) rfl #[.agg #[.int .i64 a0_0, .slice A0_1 l0_1.length c0_1, .slice A0_2 l0_2.length c0_2, .slice A0_3 l0_3.length c0_3]] rfl (by (try simp only [List.map_toArray, List.map_cons, List.map_nil]); first | done | rfl | (simp only [List.length_drop, List.length_take]; rfl)) ?_; (with_reducible refine (laws_toSystem.calls k a0_0 _ _ l0_1 _ _ l0_2 _ _ l0_3 t591 t592 t595 t598 _ ?side1 ?side2 ?side3 ?side4 ?side5 ?side6 A9.out).mono ?_); (case side1 => repeat (first | exact (Kd.C_below HR0_1.out HB.out) | (with_reducible refine Kd.C_alloc ?_ _) | (with_reducible refine Kd.C_drewN ?_ _) | (with_reducible refine Kd.C_drew ?_))); (case side2 => exact HC0_1.out); (case side3 => repeat (first | exact (Kd.C_below HR0_2.out HB.out) | (with_reducible refine Kd.C_alloc ?_ _) | (with_reducible refine Kd.C_drewN ?_ _) | (with_reducible refine Kd.C_drew ?_))); (case side4 => exact HC0_2.out); (case side5 => repeat (first | exact (Kd.C_below HR0_3.out HB.out) | (with_reducible refine Kd.C_alloc ?_ _) | (with_reducible refine Kd.C_drewN ?_ _) | (with_reducible refine Kd.C_drew ?_))); (case side6 => exact HC0_3.out); rintro e w25 ⟨v593, v596, v599, rfl, ho0, ho1, ho2, hb⟩; refine ⟨_, rfl, ?_⟩; have n0_ := Aside0.mk (Kd.R_mono (Kd.R_told (Kd.R_told (Kd.R_old (by (with_reducible repeat (first | apply Kd.R_alloc | apply Kd.R_drewN | apply Kd.R_drew)); exact HO583.out) hb) (Kd.R_base ho0)) (Kd.R_base ho1)) (fun _ h_ => h_.1)); have n1_ := Aside0.mk (Kd.R_mono (Kd.R_told (Kd.R_told (Kd.R_old (by (with_reducible repeat (first | apply Kd.R_alloc | apply Kd.R_drewN | apply Kd.R_drew)); exact HO586.out) hb) (Kd.R_base ho0)) (Kd.R_base ho1)) (fun _ h_ => h_.1)); have n2_ := Aside0.mk (Kd.R_elder' (by (with_reducible repeat (first | apply Kd.R_alloc | apply Kd.R_drewN | apply Kd.R_drew)); exact HO589.out) (Kd.R_base ho2) hb); have n3_ := Aside0.mk (Kd.R_lower (Kd.R_new' (Kd.R_new' ho0 (Kd.R_lt (by (with_reducible repeat (first | apply Kd.R_alloc | apply Kd.R_drewN | apply Kd.R_drew)); exact HO583.out))) (Kd.R_lt (by (with_reducible repeat (first | apply Kd.R_alloc | apply Kd.R_drewN | apply Kd.R_drew)); exact HO586.out))) (below_size (by repeat (first | (with_reducible first | exact HB.out | apply below_alloc | apply pw_below_drewN | apply below_drew1 | refine below_set ?_ GE578.out) | exact HB.out)))); have n4_ := Aside0.mk (Kd.R_lower (Kd.R_new' (Kd.R_new' ho1 (Kd.R_lt (by (with_reducible repeat (first | apply Kd.R_alloc | apply Kd.R_drewN | apply Kd.R_drew)); exact HO583.out))) (Kd.R_lt (by (with_reducible repeat (first | apply Kd.R_alloc | apply Kd.R_drewN | apply Kd.R_drew)); exact HO586.out))) (below_size (by repeat (first | (with_reducible first | exact HB.out | apply below_alloc | apply pw_below_drewN | apply below_drew1 | refine below_set ?_ GE578.out) | exact HB.out)))); have n5_ := Aside0.mk (Kd.R_lower (Kd.R_new' ho2 (Kd.R_lt (by (with_reducible repeat (first | apply Kd.R_alloc | apply Kd.R_drewN | apply Kd.R_drew)); exact HO589.out))) (below_size (by repeat (first | (with_reducible first | exact HB.out | apply below_alloc | apply pw_below_drewN | apply below_drew1 | refine below_set ?_ GE578.out) | exact HB.out)))); have n6_ := Aside0.mk (blk_below (g := gb578) (o := .cells #[.int .i64 a0_0, .slice A0_1 l0_1.length c0_1, .slice A0_2 l0_2.length c0_2, .slice A0_3 l0_3.length c0_3] 25 (0, 0)) (by (with_reducible repeat (first | refine blk_drewN ?_ _ | refine blk_drew ?_ | refine blk_alloc ?_ _)); exact BK578.out) hb); have n7_ := Aside0.mk (below_step (by repeat (first | (with_reducible first | exact HB.out | apply below_alloc | apply pw_below_drewN | apply below_drew1 | refine below_set ?_ GE578.out) | exact HB.out)) hb); clear HO583; clear HO586; clear HO589; clear BK578; clear HB; have HO583 := n0_; have HO586 := n1_; have HO589 := n2_; have HO594 := n3_; have HO597 := n4_; have HO600 := n5_; have BK578 := n6_; have HB := n7_; clear n0_ n1_ n2_ n3_ n4_ n5_ n6_ n7_; (try clear hb); (try clear hb2); (try clear hk); (try clear hi); (try clear ho0); (try clear ho1); (try clear ho2)) | ((with_reducible refine gate_dst (N := 5) rfl ?_); refine box_event ?hg (N := 5) ?hd (cs := #[.int .i64 0, .slice none 0 0, .slice none 0 0, .slice none 0 0]) (t := 28) ?hr ?_; (case hd => rfl); (case hg => rfl); (case hr => first | (go_simp; done) | (go_simp; rfl)); intro gb601 hg w26 hbox hb; have n0_ := Aside0.mk (Kd.R_below (by (with_reducible repeat (first | apply Kd.R_alloc | apply Kd.R_drewN | apply Kd.R_drew)); exact HO583.out) hb); have n1_ := Aside0.mk (Kd.R_below (by (with_reducible repeat (first | apply Kd.R_alloc | apply Kd.R_drewN | apply Kd.R_drew)); exact HO586.out) hb); have n2_ := Aside0.mk (Kd.R_below (by (with_reducible repeat (first | apply Kd.R_alloc | apply Kd.R_drewN | apply Kd.R_drew)); exact HO589.out) hb); have n3_ := Aside0.mk (Kd.R_below (by (with_reducible repeat (first | apply Kd.R_alloc | apply Kd.R_drewN | apply Kd.R_drew)); exact HO594.out) hb); have n4_ := Aside0.mk (Kd.R_below (by (with_reducible repeat (first | apply Kd.R_alloc | apply Kd.R_drewN | apply Kd.R_drew)); exact HO597.out) hb); have n5_ := Aside0.mk (Kd.R_below (by (with_reducible repeat (first | apply Kd.R_alloc | apply Kd.R_drewN | apply Kd.R_drew)); exact HO600.out) hb); have n6_ := Aside0.mk (blk_below (g := gb578) (o := .cells #[.int .i64 a0_0, .slice A0_1 l0_1.length c0_1, .slice A0_2 l0_2.length c0_2, .slice A0_3 l0_3.length c0_3] 25 (0, 0)) (by (with_reducible repeat (first | refine blk_drewN ?_ _ | refine blk_drew ?_ | refine blk_alloc ?_ _)); exact BK578.out) hb); have n7_ := Aside0.mk (below_step (by repeat (first | (with_reducible first | exact HB.out | apply below_alloc | apply pw_below_drewN | apply below_drew1 | refine below_set ?_ GE578.out) | exact HB.out)) hb); have n8_ := Aside0.mk (hbox); have n9_ := Aside0.mk ((by rw [hg]; exact (below_size (by repeat (first | (with_reducible first | exact HB.out | apply below_alloc | apply pw_below_drewN | apply below_drew1 | refine below_set ?_ GE578.out) | exact HB.out))) : w.heap.size ≤ gb601)); have n10_ := Aside0.mk ((by rw [hg]; exact (below_size (by repeat (first | (with_reducible first | exact HB.out | apply below_alloc | apply pw_below_drewN | apply below_drew1 | refine below_set ?_ GE578.out) | exact HB.out))) : w.heap.size ≤ gb601)); have n11_ := Aside0.mk ((by rw [hg]; exact Nat.ne_of_lt (blk_lt (g := gb578) (o := .cells #[.int .i64 a0_0, .slice A0_1 l0_1.length c0_1, .slice A0_2 l0_2.length c0_2, .slice A0_3 l0_3.length c0_3] 25 (0, 0)) (by (with_reducible repeat (first | refine blk_drewN ?_ _ | refine blk_drew ?_ | refine blk_alloc ?_ _)); exact BK578.out)) : gb578 ≠ gb601)); have n12_ := Aside0.mk ((by rw [hg]; exact Nat.ne_of_gt (blk_lt (g := gb578) (o := .cells #[.int .i64 a0_0, .slice A0_1 l0_1.length c0_1, .slice A0_2 l0_2.length c0_2, .slice A0_3 l0_3.length c0_3] 25 (0, 0)) (by (with_reducible repeat (first | refine blk_drewN ?_ _ | refine blk_drew ?_ | refine blk_alloc ?_ _)); exact BK578.out)) : gb601 ≠ gb578)); clear HO583; clear HO586; clear HO589; clear HO594; clear HO597; clear HO600; clear BK578; clear HB; have HO583 := n0_; have HO586 := n1_; have HO589 := n2_; have HO594 := n3_; have HO597 := n4_; have HO600 := n5_; have BK578 := n6_; have HB := n7_; have BK601 := n8_; have GW601 := n9_; have GE601 := n10_; have NB578_601 := n11_; have NB601_578 := n12_; clear n0_ n1_ n2_ n3_ n4_ n5_ n6_ n7_ n8_ n9_ n10_ n11_ n12_; clear hb hbox hg; have hnb27 := NB601_578.out; have hnc27 := NB578_601.out; have hcz28_0 : w26.cell? ⟨gb601, 0, none⟩ = some (.int .i64 0) := (blk_cell BK601.out 0).trans rfl; have hcz28_1 : w26.cell? ⟨gb601, 1, none⟩ = some (.slice none 0 0) := (blk_cell BK601.out 1).trans rfl; have hcz28_2 : w26.cell? ⟨gb601, 2, none⟩ = some (.slice none 0 0) := (blk_cell BK601.out 2).trans rfl; have hcz28_3 : w26.cell? ⟨gb601, 3, none⟩ = some (.slice none 0 0) := (blk_cell BK601.out 3).trans rfl; have hfz28_0 := blk_frozen BK601.out 0; have hfz28_1 := blk_frozen BK601.out 1; have hfz28_2 := blk_frozen BK601.out 2; have hfz28_3 := blk_frozen BK601.out 3; obtain ⟨Ao29, co29, eo29⟩ := Kd.R_slice HO594.out; subst eo29; obtain ⟨Ao30, co30, eo30⟩ := Kd.R_slice HO597.out; subst eo30; obtain ⟨Ao31, co31, eo31⟩ := Kd.R_slice HO600.out; subst eo31) | ((with_reducible refine gate_callee (f := 33) rfl ?_); refine goesL_ (some 18) rfl rfl Try.func33 (by kernel_rfl) rfl #[.agg #[.int .i64 t591, .slice Ao29 t592.length co29, .slice Ao30 t595.length co30, .slice Ao31 t598.length co31]] rfl (by (try simp only [List.map_toArray, List.map_cons, List.map_nil]); first | done | rfl | (simp only [List.length_drop, List.length_take]; rfl)) ?_; (with_reducible refine (impl_IsReliable.calls k t591 _ _ t592 _ _ t595 _ _ t598 t602 _ ?side1 ?side2 ?side3 ?side4 ?side5 ?side6 A10.out).mono ?_); (case side1 => refine (Kd.R_reads' (e := 3) (base := w.heap.size) (ok := fun k_ => ((some k_ ≠ (.slice Ao30 t595.length co30 : Value).ownBlock ∧ some k_ ≠ (.slice Ao20 t581.length co20 : Value).ownBlock) ∧ some k_ ≠ (.slice Ao21 t584.length co21 : Value).ownBlock)) (n := t592.length) (c := co29) ?_).2.2; exact (by (with_reducible repeat (first | apply Kd.R_alloc | apply Kd.R_drewN | apply Kd.R_drew)); exact (Kd.R_mono (Kd.R_far (p := ⟨gb601, 3, none⟩) (Kd.R_far (p := ⟨gb601, 2, none⟩) (Kd.R_far (p := ⟨gb601, 1, none⟩) (Kd.R_far (p := ⟨gb601, 0, none⟩) (Kd.R_types HO594.out BK601.out (by decide)) (fun _ hk => hk.2) (.int .i64 t591)) (fun _ hk => hk.2) (.slice Ao29 t592.length co29)) (fun _ hk => hk.2) (.slice Ao30 t595.length co30)) (fun _ hk => hk.2) (.slice Ao31 t598.length co31)) (fun _ h_ => h_.1)))); (case side2 => exact (Kd.R_reads' HO594.out).2.1); (case side3 => refine (Kd.R_reads' (e := 3) (base := w.heap.size) (ok := fun k_ => ((some k_ ≠ (.slice Ao29 t592.length co29 : Value).ownBlock ∧ some k_ ≠ (.slice Ao20 t581.length co20 : Value).ownBlock) ∧ some k_ ≠ (.slice Ao21 t584.length co21 : Value).ownBlock)) (n := t595.length) (c := co30) ?_).2.2; exact (by (with_reducible repeat (first | apply Kd.R_alloc | apply Kd.R_drewN | apply Kd.R_drew)); exact (Kd.R_mono (Kd.R_far (p := ⟨gb601, 3, none⟩) (Kd.R_far (p := ⟨gb601, 2, none⟩) (Kd.R_far (p := ⟨gb601, 1, none⟩) (Kd.R_far (p := ⟨gb601, 0, none⟩) (Kd.R_types HO597.out BK601.out (by decide)) (fun _ hk => hk.2) (.int .i64 t591)) (fun _ hk => hk.2) (.slice Ao29 t592.length co29)) (fun _ hk => hk.2) (.slice Ao30 t595.length co30)) (fun _ hk => hk.2) (.slice Ao31 t598.length co31)) (fun _ h_ => h_.1)))); (case side4 => exact (Kd.R_reads' HO597.out).2.1); (case side5 => refine (Kd.R_reads' (e := 4) (base := w.heap.size) (ok := fun k_ => (True ∧ some k_ ≠ (.slice Ao22 t587.length co22 : Value).ownBlock)) (n := t598.length) (c := co31) ?_).2.2; exact (by (with_reducible repeat (first | apply Kd.R_alloc | apply Kd.R_drewN | apply Kd.R_drew)); exact (Kd.R_mono (Kd.R_far (p := ⟨gb601, 3, none⟩) (Kd.R_far (p := ⟨gb601, 2, none⟩) (Kd.R_far (p := ⟨gb601, 1, none⟩) (Kd.R_far (p := ⟨gb601, 0, none⟩) (Kd.R_types HO600.out BK601.out (by decide)) (fun _ hk => hk.2) (.int .i64 t591)) (fun _ hk => hk.2) (.slice Ao29 t592.length co29)) (fun _ hk => hk.2) (.slice Ao30 t595.length co30)) (fun _ hk => hk.2) (.slice Ao31 t598.length co31)) (fun _ h_ => h_.1)))); (case side6 => exact (Kd.R_reads' HO600.out).2.1); rintro e w32 ⟨rfl, hb⟩; refine ⟨_, rfl, ?_⟩; have n0_ := Aside0.mk (Kd.R_below (by (with_reducible repeat (first | apply Kd.R_alloc | apply Kd.R_drewN | apply Kd.R_drew)); exact (Kd.R_mono (Kd.R_far (p := ⟨gb601, 3, none⟩) (Kd.R_far (p := ⟨gb601, 2, none⟩) (Kd.R_far (p := ⟨gb601, 1, none⟩) (Kd.R_far (p := ⟨gb601, 0, none⟩) (Kd.R_types HO583.out BK601.out (by decide)) (fun _ hk => hk.2) (.int .i64 t591)) (fun _ hk => hk.2) (.slice Ao29 t592.length co29)) (fun _ hk => hk.2) (.slice Ao30 t595.length co30)) (fun _ hk => hk.2) (.slice Ao31 t598.length co31)) (fun _ h_ => h_.1))) hb); have n1_ := Aside0.mk (Kd.R_below (by (with_reducible repeat (first | apply Kd.R_alloc | apply Kd.R_drewN | apply Kd.R_drew)); exact (Kd.R_mono (Kd.R_far (p := ⟨gb601, 3, none⟩) (Kd.R_far (p := ⟨gb601, 2, none⟩) (Kd.R_far (p := ⟨gb601, 1, none⟩) (Kd.R_far (p := ⟨gb601, 0, none⟩) (Kd.R_types HO586.out BK601.out (by decide)) (fun _ hk => hk.2) (.int .i64 t591)) (fun _ hk => hk.2) (.slice Ao29 t592.length co29)) (fun _ hk => hk.2) (.slice Ao30 t595.length co30)) (fun _ hk => hk.2) (.slice Ao31 t598.length co31)) (fun _ h_ => h_.1))) hb); have n2_ := Aside0.mk (Kd.R_below (by (with_reducible repeat (first | apply Kd.R_alloc | apply Kd.R_drewN | apply Kd.R_drew)); exact (Kd.R_mono (Kd.R_far (p := ⟨gb601, 3, none⟩) (Kd.R_far (p := ⟨gb601, 2, none⟩) (Kd.R_far (p := ⟨gb601, 1, none⟩) (Kd.R_far (p := ⟨gb601, 0, none⟩) (Kd.R_types HO589.out BK601.out (by decide)) (fun _ hk => hk.2) (.int .i64 t591)) (fun _ hk => hk.2) (.slice Ao29 t592.length co29)) (fun _ hk => hk.2) (.slice Ao30 t595.length co30)) (fun _ hk => hk.2) (.slice Ao31 t598.length co31)) (fun _ h_ => h_.1))) hb); have n3_ := Aside0.mk (Kd.R_below (by (with_reducible repeat (first | apply Kd.R_alloc | apply Kd.R_drewN | apply Kd.R_drew)); exact (Kd.R_mono (Kd.R_far (p := ⟨gb601, 3, none⟩) (Kd.R_far (p := ⟨gb601, 2, none⟩) (Kd.R_far (p := ⟨gb601, 1, none⟩) (Kd.R_far (p := ⟨gb601, 0, none⟩) (Kd.R_types HO594.out BK601.out (by decide)) (fun _ hk => hk.2) (.int .i64 t591)) (fun _ hk => hk.2) (.slice Ao29 t592.length co29)) (fun _ hk => hk.2) (.slice Ao30 t595.length co30)) (fun _ hk => hk.2) (.slice Ao31 t598.length co31)) (fun _ h_ => h_.1))) hb); have n4_ := Aside0.mk (Kd.R_below (by (with_reducible repeat (first | apply Kd.R_alloc | apply Kd.R_drewN | apply Kd.R_drew)); exact (Kd.R_mono (Kd.R_far (p := ⟨gb601, 3, none⟩) (Kd.R_far (p := ⟨gb601, 2, none⟩) (Kd.R_far (p := ⟨gb601, 1, none⟩) (Kd.R_far (p := ⟨gb601, 0, none⟩) (Kd.R_types HO597.out BK601.out (by decide)) (fun _ hk => hk.2) (.int .i64 t591)) (fun _ hk => hk.2) (.slice Ao29 t592.length co29)) (fun _ hk => hk.2) (.slice Ao30 t595.length co30)) (fun _ hk => hk.2) (.slice Ao31 t598.length co31)) (fun _ h_ => h_.1))) hb); have n5_ := Aside0.mk (Kd.R_below (by (with_reducible repeat (first | apply Kd.R_alloc | apply Kd.R_drewN | apply Kd.R_drew)); exact (Kd.R_mono (Kd.R_far (p := ⟨gb601, 3, none⟩) (Kd.R_far (p := ⟨gb601, 2, none⟩) (Kd.R_far (p := ⟨gb601, 1, none⟩) (Kd.R_far (p := ⟨gb601, 0, none⟩) (Kd.R_types HO600.out BK601.out (by decide)) (fun _ hk => hk.2) (.int .i64 t591)) (fun _ hk => hk.2) (.slice Ao29 t592.length co29)) (fun _ hk => hk.2) (.slice Ao30 t595.length co30)) (fun _ hk => hk.2) (.slice Ao31 t598.length co31)) (fun _ h_ => h_.1))) hb); have n6_ := Aside0.mk (blk_below (g := gb578) (o := .cells #[.int .i64 a0_0, .slice A0_1 l0_1.length c0_1, .slice A0_2 l0_2.length c0_2, .slice A0_3 l0_3.length c0_3] 25 (0, 0)) (by (with_reducible repeat (first | refine blk_drewN ?_ _ | refine blk_drew ?_ | refine blk_alloc ?_ _)); refine blk_far ?_ NB578_601.out _; (with_reducible repeat (first | refine blk_drewN ?_ _ | refine blk_drew ?_ | refine blk_alloc ?_ _)); refine blk_far ?_ NB578_601.out _; (with_reducible repeat (first | refine blk_drewN ?_ _ | refine blk_drew ?_ | refine blk_alloc ?_ _)); refine blk_far ?_ NB578_601.out _; (with_reducible repeat (first | refine blk_drewN ?_ _ | refine blk_drew ?_ | refine blk_alloc ?_ _)); refine blk_far ?_ NB578_601.out _; (with_reducible repeat (first | refine blk_drewN ?_ _ | refine blk_drew ?_ | refine blk_alloc ?_ _)); exact BK578.out) hb); have n7_ := Aside0.mk (blk_below (g := gb601) (o := .cells #[.int .i64 t591, .slice Ao29 t592.length co29, .slice Ao30 t595.length co30, .slice Ao31 t598.length co31] 28 (0, 0)) (by (with_reducible repeat (first | refine blk_drewN ?_ _ | refine blk_drew ?_ | refine blk_alloc ?_ _)); refine blk_put (cs := #[.int .i64 t591, .slice Ao29 t592.length co29, .slice Ao30 t595.length co30, .slice none 0 0]) ?_ 3 _ rfl; (with_reducible repeat (first | refine blk_drewN ?_ _ | refine blk_drew ?_ | refine blk_alloc ?_ _)); refine blk_put (cs := #[.int .i64 t591, .slice Ao29 t592.length co29, .slice none 0 0, .slice none 0 0]) ?_ 2 _ rfl; (with_reducible repeat (first | refine blk_drewN ?_ _ | refine blk_drew ?_ | refine blk_alloc ?_ _)); refine blk_put (cs := #[.int .i64 t591, .slice none 0 0, .slice none 0 0, .slice none 0 0]) ?_ 1 _ rfl; (with_reducible repeat (first | refine blk_drewN ?_ _ | refine blk_drew ?_ | refine blk_alloc ?_ _)); refine blk_put (cs := #[.int .i64 0, .slice none 0 0, .slice none 0 0, .slice none 0 0]) ?_ 0 _ rfl; (with_reducible repeat (first | refine blk_drewN ?_ _ | refine blk_drew ?_ | refine blk_alloc ?_ _)); exact BK601.out) hb); have n8_ := Aside0.mk (below_step (by repeat (first | (with_reducible first | exact HB.out | apply below_alloc | apply pw_below_drewN | apply below_drew1 | refine below_set ?_ GE578.out | refine below_set ?_ GE601.out) | exact HB.out)) hb); clear HO583; clear HO586; clear HO589; clear HO594; clear HO597; clear HO600; clear BK578; clear BK601; clear HB; have HO583 := n0_; have HO586 := n1_; have HO589 := n2_; have HO594 := n3_; have HO597 := n4_; have HO600 := n5_; have BK578 := n6_; have BK601 := n7_; have HB := n8_; clear n0_ n1_ n2_ n3_ n4_ n5_ n6_ n7_ n8_; (try clear hb); (try clear hb2); (try clear hk); (try clear hi)))
        have n0_ := Aside0.mk (Kd.R_drew HO583.out)
        have n1_ := Aside0.mk (Kd.R_drew HO586.out)
        have n2_ := Aside0.mk (Kd.R_drew HO589.out)
        have n3_ := Aside0.mk (Kd.R_drew HO594.out)
        have n4_ := Aside0.mk (Kd.R_drew HO597.out)
        have n5_ := Aside0.mk (Kd.R_drew HO600.out)
        have n6_ := Aside0.mk (blk_drew BK578.out)
        have n7_ := Aside0.mk (blk_drew BK601.out)
        have n8_ := Aside0.mk (below_drew1 HB.out)
        clear HO583
        clear HO586
        clear HO589
        clear HO594
        clear HO597
        clear HO600
        clear BK578
        clear BK601
        clear HB
        have HO583 := n0_
        have HO586 := n1_
        have HO589 := n2_
        have HO594 := n3_
        have HO597 := n4_
        have HO600 := n5_
        have BK578 := n6_
        have BK601 := n7_
        have HB := n8_
        clear n0_ n1_ n2_ n3_ n4_ n5_ n6_ n7_ n8_
        refine start_ (n := 5) (S := fun w' => w'.cell? ⟨gb601, 0, none⟩ = some (.int .i64 t591) ∧ w'.cell? ⟨gb601, 1, none⟩ = some (.slice Ao29 t592.length co29) ∧ w'.cell? ⟨gb601, 2, none⟩ = some (.slice Ao30 t595.length co30) ∧ w'.cell? ⟨gb601, 3, none⟩ = some (.slice Ao31 t598.length co31) ∧ w'.cell? ⟨gb578, 0, none⟩ = some (.int .i64 a0_0) ∧ w'.cell? ⟨gb578, 1, none⟩ = some (.slice A0_1 l0_1.length c0_1) ∧ w'.cell? ⟨gb578, 2, none⟩ = some (.slice A0_2 l0_2.length c0_2) ∧ w'.cell? ⟨gb578, 3, none⟩ = some (.slice A0_3 l0_3.length c0_3)) (ds := []) #[false, false, false, false, false] (by kernel_rfl) rfl rfl ⟨(blk_cell BK601.out 0).trans rfl, (blk_cell BK601.out 1).trans rfl, (blk_cell BK601.out 2).trans rfl, (blk_cell BK601.out 3).trans rfl, (blk_cell BK578.out 0).trans rfl, (blk_cell BK578.out 1).trans rfl, (blk_cell BK578.out 2).trans rfl, (blk_cell BK578.out 3).trans rfl⟩ (fun hHeld => ?_)
        generalize w32.drew = w33 at HO583 HO586 HO589 HO594 HO597 HO600 BK578 BK601 HB hHeld ⊢
        refine take_ (i := 0) (N := some 22) (v := ?_) (a' := ?_) #[true, false, false, false, false] rfl rfl (by kernel_rfl) (fun _ _ _ h => h) (Or.inl ⟨by rfl, ?_⟩) hHeld ?_ ?_
        rotate_left
        · rintro w' ⟨s0, s1, s2, s3, s4, s5, s6, s7⟩
          go_simp
          with_reducible rfl
        rotate_left
        · simp only [Act.put, List.setIfInBounds_toArray, List.set_cons_zero, List.set_cons_succ, i64_w, i32_w]
          rfl
        refine take_ (i := 1) (N := some 23) (v := ?_) (a' := ?_) #[true, true, false, false, false] rfl rfl (by kernel_rfl) (fun _ _ _ h => h) (Or.inl ⟨by rfl, ?_⟩) hHeld ?_ ?_
        rotate_left
        · rintro w' ⟨s0, s1, s2, s3, s4, s5, s6, s7⟩
          go_simp
          with_reducible rfl
        rotate_left
        · simp only [Act.put, List.setIfInBounds_toArray, List.set_cons_zero, List.set_cons_succ, i64_w, i32_w]
          rfl
        refine one_ (i := 2) (N := some 24) #[true, true, true, false, false] rfl rfl (by kernel_rfl) (by decide) (fun K hK => ?_)
        refine goes_ Try.func17 (by kernel_rfl) rfl #[.agg #[.int .i64 a0_0, .slice A0_1 l0_1.length c0_1, .slice A0_2 l0_2.length c0_2, .slice A0_3 l0_3.length c0_3]] (by rfl) rfl rfl (by (try simp only [List.map_toArray, List.map_cons, List.map_nil]); first | done | rfl | (simp only [List.length_drop, List.length_take]; rfl)) ?_
        with_reducible refine (laws_toSystem.calls k a0_0 _ _ l0_1 _ _ l0_2 _ _ l0_3 t603 t604 t607 t610 _ ?side1 ?side2 ?side3 ?side4 ?side5 ?side6 A12.out).mono ?_
        (case side1 => repeat (first | exact (Kd.C_below HR0_1.out HB.out) | (with_reducible refine Kd.C_alloc ?_ _) | (with_reducible refine Kd.C_drewN ?_ _) | (with_reducible refine Kd.C_drew ?_)))
        (case side2 => exact HC0_1.out)
        (case side3 => repeat (first | exact (Kd.C_below HR0_2.out HB.out) | (with_reducible refine Kd.C_alloc ?_ _) | (with_reducible refine Kd.C_drewN ?_ _) | (with_reducible refine Kd.C_drew ?_)))
        (case side4 => exact HC0_2.out)
        (case side5 => repeat (first | exact (Kd.C_below HR0_3.out HB.out) | (with_reducible refine Kd.C_alloc ?_ _) | (with_reducible refine Kd.C_drewN ?_ _) | (with_reducible refine Kd.C_drew ?_)))
        (case side6 => exact HC0_3.out)
        rintro e w34 ⟨v605, v608, v611, rfl, ho0, ho1, ho2, hb⟩
        refine ⟨_, rfl, ?_⟩
        have n0_ := Aside0.mk (Kd.R_mono (Kd.R_told (Kd.R_told (Kd.R_old (by (with_reducible repeat (first | apply Kd.R_alloc | apply Kd.R_drewN | apply Kd.R_drew)); exact HO583.out) hb) (Kd.R_base ho0)) (Kd.R_base ho1)) (fun _ h_ => h_.1))
        have n1_ := Aside0.mk (Kd.R_mono (Kd.R_told (Kd.R_told (Kd.R_old (by (with_reducible repeat (first | apply Kd.R_alloc | apply Kd.R_drewN | apply Kd.R_drew)); exact HO586.out) hb) (Kd.R_base ho0)) (Kd.R_base ho1)) (fun _ h_ => h_.1))
        have n2_ := Aside0.mk (Kd.R_elder' (by (with_reducible repeat (first | apply Kd.R_alloc | apply Kd.R_drewN | apply Kd.R_drew)); exact HO589.out) (Kd.R_base ho2) hb)
        have n3_ := Aside0.mk (Kd.R_mono (Kd.R_told (Kd.R_told (Kd.R_old (by (with_reducible repeat (first | apply Kd.R_alloc | apply Kd.R_drewN | apply Kd.R_drew)); exact HO594.out) hb) (Kd.R_base ho0)) (Kd.R_base ho1)) (fun _ h_ => h_.1))
        have n4_ := Aside0.mk (Kd.R_mono (Kd.R_told (Kd.R_told (Kd.R_old (by (with_reducible repeat (first | apply Kd.R_alloc | apply Kd.R_drewN | apply Kd.R_drew)); exact HO597.out) hb) (Kd.R_base ho0)) (Kd.R_base ho1)) (fun _ h_ => h_.1))
        have n5_ := Aside0.mk (Kd.R_elder' (by (with_reducible repeat (first | apply Kd.R_alloc | apply Kd.R_drewN | apply Kd.R_drew)); exact HO600.out) (Kd.R_base ho2) hb)
        have n6_ := Aside0.mk (Kd.R_lower (Kd.R_new' (Kd.R_new' (Kd.R_new' (Kd.R_new' ho0 (Kd.R_lt (by (with_reducible repeat (first | apply Kd.R_alloc | apply Kd.R_drewN | apply Kd.R_drew)); exact HO583.out))) (Kd.R_lt (by (with_reducible repeat (first | apply Kd.R_alloc | apply Kd.R_drewN | apply Kd.R_drew)); exact HO586.out))) (Kd.R_lt (by (with_reducible repeat (first | apply Kd.R_alloc | apply Kd.R_drewN | apply Kd.R_drew)); exact HO594.out))) (Kd.R_lt (by (with_reducible repeat (first | apply Kd.R_alloc | apply Kd.R_drewN | apply Kd.R_drew)); exact HO597.out))) (below_size (by repeat (first | (with_reducible first | exact HB.out | apply below_alloc | apply pw_below_drewN | apply below_drew1 | refine below_set ?_ GE578.out | refine below_set ?_ GE601.out) | exact HB.out))))
        have n7_ := Aside0.mk (Kd.R_lower (Kd.R_new' (Kd.R_new' (Kd.R_new' (Kd.R_new' ho1 (Kd.R_lt (by (with_reducible repeat (first | apply Kd.R_alloc | apply Kd.R_drewN | apply Kd.R_drew)); exact HO583.out))) (Kd.R_lt (by (with_reducible repeat (first | apply Kd.R_alloc | apply Kd.R_drewN | apply Kd.R_drew)); exact HO586.out))) (Kd.R_lt (by (with_reducible repeat (first | apply Kd.R_alloc | apply Kd.R_drewN | apply Kd.R_drew)); exact HO594.out))) (Kd.R_lt (by (with_reducible repeat (first | apply Kd.R_alloc | apply Kd.R_drewN | apply Kd.R_drew)); exact HO597.out))) (below_size (by repeat (first | (with_reducible first | exact HB.out | apply below_alloc | apply pw_below_drewN | apply below_drew1 | refine below_set ?_ GE578.out | refine below_set ?_ GE601.out) | exact HB.out))))
        have n8_ := Aside0.mk (Kd.R_lower (Kd.R_new' (Kd.R_new' ho2 (Kd.R_lt (by (with_reducible repeat (first | apply Kd.R_alloc | apply Kd.R_drewN | apply Kd.R_drew)); exact HO589.out))) (Kd.R_lt (by (with_reducible repeat (first | apply Kd.R_alloc | apply Kd.R_drewN | apply Kd.R_drew)); exact HO600.out))) (below_size (by repeat (first | (with_reducible first | exact HB.out | apply below_alloc | apply pw_below_drewN | apply below_drew1 | refine below_set ?_ GE578.out | refine below_set ?_ GE601.out) | exact HB.out))))
        have n9_ := Aside0.mk (blk_below (g := gb578) (o := .cells #[.int .i64 a0_0, .slice A0_1 l0_1.length c0_1, .slice A0_2 l0_2.length c0_2, .slice A0_3 l0_3.length c0_3] 25 (0, 0)) (by (with_reducible repeat (first | refine blk_drewN ?_ _ | refine blk_drew ?_ | refine blk_alloc ?_ _)); exact BK578.out) hb)
        have n10_ := Aside0.mk (blk_below (g := gb601) (o := .cells #[.int .i64 t591, .slice Ao29 t592.length co29, .slice Ao30 t595.length co30, .slice Ao31 t598.length co31] 28 (0, 0)) (by (with_reducible repeat (first | refine blk_drewN ?_ _ | refine blk_drew ?_ | refine blk_alloc ?_ _)); exact BK601.out) hb)
        have n11_ := Aside0.mk (below_step (by repeat (first | (with_reducible first | exact HB.out | apply below_alloc | apply pw_below_drewN | apply below_drew1 | refine below_set ?_ GE578.out | refine below_set ?_ GE601.out) | exact HB.out)) hb)
        clear HO583
        clear HO586
        clear HO589
        clear HO594
        clear HO597
        clear HO600
        clear BK578
        clear BK601
        clear HB
        have HO583 := n0_
        have HO586 := n1_
        have HO589 := n2_
        have HO594 := n3_
        have HO597 := n4_
        have HO600 := n5_
        have HO606 := n6_
        have HO609 := n7_
        have HO612 := n8_
        have BK578 := n9_
        have BK601 := n10_
        have HB := n11_
        clear n0_ n1_ n2_ n3_ n4_ n5_ n6_ n7_ n8_ n9_ n10_ n11_
        (try clear hb)
        (try clear hb2)
        (try clear hk)
        (try clear hi)
        (try clear ho0)
        (try clear ho1)
        (try clear ho2)
        obtain ⟨Ao35, co35, eo35⟩ := Kd.R_slice HO606.out
        (first | subst eo35 | (injection eo35 with f1_ f2_ f3_; have f4_ := f1_.symm; have f5_ := f3_.symm; clear f1_ f2_ f3_; subst f4_; subst f5_))
        obtain ⟨Ao36, co36, eo36⟩ := Kd.R_slice HO609.out
        (first | subst eo36 | (injection eo36 with f1_ f2_ f3_; have f4_ := f1_.symm; have f5_ := f3_.symm; clear f1_ f2_ f3_; subst f4_; subst f5_))
        obtain ⟨Ao37, co37, eo37⟩ := Kd.R_slice HO612.out
        (first | subst eo37 | (injection eo37 with f1_ f2_ f3_; have f4_ := f1_.symm; have f5_ := f3_.symm; clear f1_ f2_ f3_; subst f4_; subst f5_))
        refine hK.out _ _ ⟨(blk_cell BK601.out 0).trans rfl, (blk_cell BK601.out 1).trans rfl, (blk_cell BK601.out 2).trans rfl, (blk_cell BK601.out 3).trans rfl, (blk_cell BK578.out 0).trans rfl, (blk_cell BK578.out 1).trans rfl, (blk_cell BK578.out 2).trans rfl, (blk_cell BK578.out 3).trans rfl⟩ (fun hHeld => ?_)
        clear hK K
        refine norm_ (a' := ?_) ?_ ?_
        rotate_left
        · show Act.put _ (some 24) _ = _
          simp only [Act.put, List.setIfInBounds_toArray, List.set_cons_zero, List.set_cons_succ, i64_w, i32_w]
          rfl
        refine one_ (i := 3) (N := some 25) #[true, true, true, true, false] rfl rfl (by kernel_rfl) (by decide) (fun K hK => ?_)
        refine goes_ Try.func19 (by kernel_rfl) rfl #[.agg #[.int .i64 t591, .slice Ao29 t592.length co29, .slice Ao30 t595.length co30, .slice Ao31 t598.length co31], .agg #[.int .i64 t603, .slice Ao35 t604.length co35, .slice Ao36 t607.length co36, .slice Ao37 t610.length co37]] (by rfl) rfl rfl (by (try simp only [List.map_toArray, List.map_cons, List.map_nil]); first | done | rfl | (simp only [List.length_drop, List.length_take]; rfl)) ?_
        with_reducible refine (laws_eqSystem.calls k t591 _ _ t592 _ _ t595 _ _ t598 t603 _ _ t604 _ _ t607 _ _ t610 true _ ?side1 ?side2 ?side3 ?side4 ?side5 ?side6 ?side7 ?side8 ?side9 ?side10 ?side11 ?side12 A13.out).mono ?_
        (case side1 => repeat (first | exact (Kd.R_reads' HO594.out).2.2 | (with_reducible refine Kd.C_alloc ?_ _) | (with_reducible refine Kd.C_drewN ?_ _) | (with_reducible refine Kd.C_drew ?_)))
        (case side2 => exact (Kd.R_reads' HO594.out).2.1)
        (case side3 => repeat (first | exact (Kd.R_reads' HO597.out).2.2 | (with_reducible refine Kd.C_alloc ?_ _) | (with_reducible refine Kd.C_drewN ?_ _) | (with_reducible refine Kd.C_drew ?_)))
        (case side4 => exact (Kd.R_reads' HO597.out).2.1)
        (case side5 => repeat (first | exact (Kd.R_reads' HO600.out).2.2 | (with_reducible refine Kd.C_alloc ?_ _) | (with_reducible refine Kd.C_drewN ?_ _) | (with_reducible refine Kd.C_drew ?_)))
        (case side6 => exact (Kd.R_reads' HO600.out).2.1)
        (case side7 => repeat (first | exact (Kd.R_reads' HO606.out).2.2 | (with_reducible refine Kd.C_alloc ?_ _) | (with_reducible refine Kd.C_drewN ?_ _) | (with_reducible refine Kd.C_drew ?_)))
        (case side8 => exact (Kd.R_reads' HO606.out).2.1)
        (case side9 => repeat (first | exact (Kd.R_reads' HO609.out).2.2 | (with_reducible refine Kd.C_alloc ?_ _) | (with_reducible refine Kd.C_drewN ?_ _) | (with_reducible refine Kd.C_drew ?_)))
        (case side10 => exact (Kd.R_reads' HO609.out).2.1)
        (case side11 => repeat (first | exact (Kd.R_reads' HO612.out).2.2 | (with_reducible refine Kd.C_alloc ?_ _) | (with_reducible refine Kd.C_drewN ?_ _) | (with_reducible refine Kd.C_drew ?_)))
        (case side12 => exact (Kd.R_reads' HO612.out).2.1)
        rintro e w38 ⟨rfl, hb⟩
        refine ⟨_, rfl, ?_⟩
        have n0_ := Aside0.mk (Kd.R_below (by (with_reducible repeat (first | apply Kd.R_alloc | apply Kd.R_drewN | apply Kd.R_drew)); exact HO583.out) hb)
        have n1_ := Aside0.mk (Kd.R_below (by (with_reducible repeat (first | apply Kd.R_alloc | apply Kd.R_drewN | apply Kd.R_drew)); exact HO586.out) hb)
        have n2_ := Aside0.mk (Kd.R_below (by (with_reducible repeat (first | apply Kd.R_alloc | apply Kd.R_drewN | apply Kd.R_drew)); exact HO589.out) hb)
        have n3_ := Aside0.mk (Kd.R_below (by (with_reducible repeat (first | apply Kd.R_alloc | apply Kd.R_drewN | apply Kd.R_drew)); exact HO594.out) hb)
        have n4_ := Aside0.mk (Kd.R_below (by (with_reducible repeat (first | apply Kd.R_alloc | apply Kd.R_drewN | apply Kd.R_drew)); exact HO597.out) hb)
        have n5_ := Aside0.mk (Kd.R_below (by (with_reducible repeat (first | apply Kd.R_alloc | apply Kd.R_drewN | apply Kd.R_drew)); exact HO600.out) hb)
        have n6_ := Aside0.mk (Kd.R_below (by (with_reducible repeat (first | apply Kd.R_alloc | apply Kd.R_drewN | apply Kd.R_drew)); exact HO606.out) hb)
        have n7_ := Aside0.mk (Kd.R_below (by (with_reducible repeat (first | apply Kd.R_alloc | apply Kd.R_drewN | apply Kd.R_drew)); exact HO609.out) hb)
        have n8_ := Aside0.mk (Kd.R_below (by (with_reducible repeat (first | apply Kd.R_alloc | apply Kd.R_drewN | apply Kd.R_drew)); exact HO612.out) hb)
        have n9_ := Aside0.mk (blk_below (g := gb578) (o := .cells #[.int .i64 a0_0, .slice A0_1 l0_1.length c0_1, .slice A0_2 l0_2.length c0_2, .slice A0_3 l0_3.length c0_3] 25 (0, 0)) (by (with_reducible repeat (first | refine blk_drewN ?_ _ | refine blk_drew ?_ | refine blk_alloc ?_ _)); exact BK578.out) hb)
        have n10_ := Aside0.mk (blk_below (g := gb601) (o := .cells #[.int .i64 t591, .slice Ao29 t592.length co29, .slice Ao30 t595.length co30, .slice Ao31 t598.length co31] 28 (0, 0)) (by (with_reducible repeat (first | refine blk_drewN ?_ _ | refine blk_drew ?_ | refine blk_alloc ?_ _)); exact BK601.out) hb)
        have n11_ := Aside0.mk (below_step (by repeat (first | (with_reducible first | exact HB.out | apply below_alloc | apply pw_below_drewN | apply below_drew1 | refine below_set ?_ GE578.out | refine below_set ?_ GE601.out) | exact HB.out)) hb)
        clear HO583
        clear HO586
        clear HO589
        clear HO594
        clear HO597
        clear HO600
        clear HO606
        clear HO609
        clear HO612
        clear BK578
        clear BK601
        clear HB
        have HO583 := n0_
        have HO586 := n1_
        have HO589 := n2_
        have HO594 := n3_
        have HO597 := n4_
        have HO600 := n5_
        have HO606 := n6_
        have HO609 := n7_
        have HO612 := n8_
        have BK578 := n9_
        have BK601 := n10_
        have HB := n11_
        clear n0_ n1_ n2_ n3_ n4_ n5_ n6_ n7_ n8_ n9_ n10_ n11_
        (try clear hb)
        (try clear hb2)
        (try clear hk)
        (try clear hi)
        refine hK.out _ _ ⟨(blk_cell BK601.out 0).trans rfl, (blk_cell BK601.out 1).trans rfl, (blk_cell BK601.out 2).trans rfl, (blk_cell BK601.out 3).trans rfl, (blk_cell BK578.out 0).trans rfl, (blk_cell BK578.out 1).trans rfl, (blk_cell BK578.out 2).trans rfl, (blk_cell BK578.out 3).trans rfl⟩ (fun hHeld => ?_)
        clear hK K
        refine norm_ (a' := ?_) ?_ ?_
        rotate_left
        · show Act.put _ (some 25) _ = _
          simp only [Act.put, List.setIfInBounds_toArray, List.set_cons_zero, List.set_cons_succ, i64_w, i32_w]
          rfl
        refine pure_ (i := 4) (N := some 26) (v := ?_) (a' := ?_) #[true, true, true, true, true] rfl rfl (by kernel_rfl) (fun _ _ _ h => h) (Or.inl ⟨by rfl, ?_⟩) ?_ ?_
        rotate_left
        · intro w'
          go_simp
          with_reducible rfl
        rotate_left
        · simp only [Act.put, List.setIfInBounds_toArray, List.set_cons_zero, List.set_cons_succ, i64_w, i32_w]
          rfl
        refine done_ (by kernel_rfl) ?_
        try go_wp2
        go_ret
        exact ⟨by first | rfl | (simp [errW_none, errW_some] <;> rfl) | (simp [*, errW_none, errW_some] <;> rfl), by repeat (first | (with_reducible first | exact HB.out | apply below_alloc | apply pw_below_drewN | apply below_drew1 | refine below_set ?_ GE578.out | refine below_set ?_ GE601.out) | exact HB.out)⟩
      · replace c14 := Bool.eq_false_iff.mpr c14
        subst c14
        have H1 : (some false) = some r := by rw [if_neg (show ¬ (false = true) by decide)] at H; exact H
        clear H
        have H := H1
        clear H1
        obtain rfl := Option.some.inj H
        exact absurd hr_ (by decide)

def laws_FnExactIsReliable.Pure : Prop := ∀ (a0_0 : Int) (l0_1 : List Int) (l0_2 : List Int) (l0_3 : List Bool), (Lit.int .i64 a0_0).wf = true → ((∀ z ∈ l0_1, (Lit.int .i64 z).wf = true) ∧ l0_1.length ≤ maxLen) → ((∀ z ∈ l0_2, (Lit.int .i64 z).wf = true) ∧ l0_2.length ≤ maxLen) → ((∀ z ∈ l0_3, True) ∧ l0_3.length ≤ maxLen) → ∃ k, laws_FnExactIsReliable.f k a0_0 l0_1 l0_2 l0_3 = some true

end Go.Proofs.Ythdbijjkcoafiaa.P
