-- Printed by this session's own program (wip/tools/mkprint.py) out of the translation. Not trusted: Lean checks it.
import Derived.Test.YthdbijjkcoafiaaP0
import Derived.Test.YthdbijjkcoafiaaPf15
import Derived.Test.YthdbijjkcoafiaaPf17
import Derived.Test.YthdbijjkcoafiaaPf19
import Derived.Test.YthdbijjkcoafiaaPf38
import Derived.Test.YthdbijjkcoafiaaPf39
namespace Go.Proofs.Ythdbijjkcoafiaa.P
open Go.RowKit Go.Proofs.YthdbijjkcoafiaaW.PrintWords Go.Proofs.YthdbijjkcoafiaaW.PrintLast Go.Proofs.YthdbijjkcoafiaaW.PrintMore
attribute [local go_sem] max2_int min2_int max_two min_two max_three min_three max_four min_four   -- for this text's walks alone
set_option linter.unusedVariables false
set_option linter.unusedSimpArgs false

/-! ### laws_FnExactMeetGrades: function 12 -/
def laws_FnExactMeetGrades.f (k : Nat) (a0_0 : Int) (l0_1 : List Int) (l0_2 : List Int) (l0_3 : List Bool) (a1 : Int) (a2 : Int) : Option (Bool) := (laws_szSystem.f a0_0 l0_1 l0_2 l0_3 1048576).bind fun t690 => (if t690 < 0 then (some true) else ((laws_toSystem.f k a0_0 l0_1 l0_2 l0_3).bind fun bt691 => ((spec_MeetGrades.f k bt691.1 bt691.2.1 bt691.2.2.1 bt691.2.2.2 a1 a2).bind fun t701 => ((laws_toSystem.f k a0_0 l0_1 l0_2 l0_3).bind fun bt702 => ((impl_MeetGrades.f k bt702.1 bt702.2.1 bt702.2.2.1 bt702.2.2.2 a1 a2).bind fun t713 => (if t713 = t701 then ((laws_toSystem.f k a0_0 l0_1 l0_2 l0_3).bind fun bt714 => ((laws_eqSystem.f k bt702.1 bt702.2.1 bt702.2.2.1 bt702.2.2.2 bt714.1 bt714.2.1 bt714.2.2.1 bt714.2.2.2).bind fun t724 => (if t724 = true then (some true) else (some false)))) else (some false)))))))
set_option maxHeartbeats 8000000 in
set_option maxRecDepth 100000 in
theorem laws_FnExactMeetGrades.calls (k : Nat) (a0_0 : Int) (A0_1 : Option Addr) (c0_1 : Nat) (l0_1 : List Int) (A0_2 : Option Addr) (c0_2 : Nat) (l0_2 : List Int) (A0_3 : Option Addr) (c0_3 : Nat) (l0_3 : List Bool) (a1 : Int) (a2 : Int) (r : Bool) (w : World) (hr0_1 : Kd.C (Kd.int .i64) w A0_1 l0_1.length l0_1) (hc0_1 : l0_1.length ≤ c0_1) (hr0_2 : Kd.C (Kd.int .i64) w A0_2 l0_2.length l0_2) (hc0_2 : l0_2.length ≤ c0_2) (hr0_3 : Kd.C Kd.bool w A0_3 l0_3.length l0_3) (hc0_3 : l0_3.length ≤ c0_3) (h : laws_FnExactMeetGrades.f k a0_0 l0_1 l0_2 l0_3 a1 a2 = some r) (hr_ : r = true) :
    Calls Try.prog 12 #[.agg #[.int .i64 a0_0, .slice A0_1 l0_1.length c0_1, .slice A0_2 l0_2.length c0_2, .slice A0_3 l0_3.length c0_3], .int .i64 a1, .int .i64 a2] w fun e w' => e = .returned (.bool r) ∧ Below w.heap.size w w' := by
  have hu25 := Try.underlying25
  have hu28 := Try.underlying28
  have HR0_1 := Aside0.mk hr0_1
  have HC0_1 := Aside0.mk hc0_1
  clear hr0_1 hc0_1
  have HR0_2 := Aside0.mk hr0_2
  have HC0_2 := Aside0.mk hc0_2
  clear hr0_2 hc0_2
  have HR0_3 := Aside0.mk hr0_3
  have HC0_3 := Aside0.mk hc0_3
  clear hr0_3 hc0_3
  have HB := Aside0.mk (Below.refl w.heap.size w)
  have H : ((laws_szSystem.f a0_0 l0_1 l0_2 l0_3 1048576).bind fun t690 => (if t690 < 0 then (some true) else ((laws_toSystem.f k a0_0 l0_1 l0_2 l0_3).bind fun bt691 => ((spec_MeetGrades.f k bt691.1 bt691.2.1 bt691.2.2.1 bt691.2.2.2 a1 a2).bind fun t701 => ((laws_toSystem.f k a0_0 l0_1 l0_2 l0_3).bind fun bt702 => ((impl_MeetGrades.f k bt702.1 bt702.2.1 bt702.2.2.1 bt702.2.2.2 a1 a2).bind fun t713 => (if t713 = t701 then ((laws_toSystem.f k a0_0 l0_1 l0_2 l0_3).bind fun bt714 => ((laws_eqSystem.f k bt702.1 bt702.2.1 bt702.2.2.1 bt702.2.2.2 bt714.1 bt714.2.1 bt714.2.2.1 bt714.2.2.2).bind fun t724 => (if t724 = true then (some true) else (some false)))) else (some false)))))))) = some r := h
  clear h
  replace H := Option.bind_eq_some_iff.mp H
  obtain ⟨t690, A40, H⟩ := H
  replace H : (if t690 < 0 then (some true) else ((laws_toSystem.f k a0_0 l0_1 l0_2 l0_3).bind fun bt691 => ((spec_MeetGrades.f k bt691.1 bt691.2.1 bt691.2.2.1 bt691.2.2.2 a1 a2).bind fun t701 => ((laws_toSystem.f k a0_0 l0_1 l0_2 l0_3).bind fun bt702 => ((impl_MeetGrades.f k bt702.1 bt702.2.1 bt702.2.2.1 bt702.2.2.2 a1 a2).bind fun t713 => (if t713 = t701 then ((laws_toSystem.f k a0_0 l0_1 l0_2 l0_3).bind fun bt714 => ((laws_eqSystem.f k bt702.1 bt702.2.1 bt702.2.2.1 bt702.2.2.2 bt714.1 bt714.2.1 bt714.2.2.1 bt714.2.2.2).bind fun t724 => (if t724 = true then (some true) else (some false)))) else (some false))))))) = some r := H
  have A4 := Aside0.mk A40
  clear A40
  by_cases c5 : t690 < 0
  · rw [if_pos c5] at H
    have c5b0 : decide (t690 < 0) = true := decide_eq_true c5
    clear c5
    obtain rfl := Option.some.inj H
    go_enter Try.func12, Try.ntmps12
    go_wp2_with (first | ((with_reducible refine gate_dst (N := 3) rfl ?_); refine box_event ?hg (N := 3) ?hd (cs := #[.int .i64 a0_0, .slice A0_1 l0_1.length c0_1, .slice A0_2 l0_2.length c0_2, .slice A0_3 l0_3.length c0_3]) (t := 25) ?hr ?_; (case hd => rfl); (case hg => rfl); (case hr => first | (go_simp; done) | (go_simp; rfl)); intro gb689 hg w6 hbox hb; have n0_ := Aside0.mk (below_step (by repeat (first | (with_reducible first | exact HB.out | apply below_alloc | apply pw_below_drewN | apply below_drew1) | exact HB.out)) hb); have n1_ := Aside0.mk (hbox); have n2_ := Aside0.mk ((by rw [hg]; exact (below_size (by repeat (first | (with_reducible first | exact HB.out | apply below_alloc | apply pw_below_drewN | apply below_drew1) | exact HB.out))) : w.heap.size ≤ gb689)); have n3_ := Aside0.mk ((by rw [hg]; exact (below_size (by repeat (first | (with_reducible first | exact HB.out | apply below_alloc | apply pw_below_drewN | apply below_drew1) | exact HB.out))) : w.heap.size ≤ gb689)); clear HB; have HB := n0_; have BK689 := n1_; have GW689 := n2_; have GE689 := n3_; clear n0_ n1_ n2_ n3_; clear hb hbox hg; have hcz7_0 : w6.cell? ⟨gb689, 0, none⟩ = some (.int .i64 a0_0) := (blk_cell BK689.out 0).trans rfl; have hcz7_1 : w6.cell? ⟨gb689, 1, none⟩ = some (.slice A0_1 l0_1.length c0_1) := (blk_cell BK689.out 1).trans rfl; have hcz7_2 : w6.cell? ⟨gb689, 2, none⟩ = some (.slice A0_2 l0_2.length c0_2) := (blk_cell BK689.out 2).trans rfl; have hcz7_3 : w6.cell? ⟨gb689, 3, none⟩ = some (.slice A0_3 l0_3.length c0_3) := (blk_cell BK689.out 3).trans rfl; have hfz7_0 := blk_frozen BK689.out 0; have hfz7_1 := blk_frozen BK689.out 1; have hfz7_2 := blk_frozen BK689.out 2; have hfz7_3 := blk_frozen BK689.out 3) | ((with_reducible refine gate_callee (f := 15) rfl ?_); refine goesL_ (some 13) rfl rfl Try.func15 (by kernel_rfl) rfl #[.agg #[.int .i64 a0_0, .slice A0_1 l0_1.length c0_1, .slice A0_2 l0_2.length c0_2, .slice A0_3 l0_3.length c0_3], .int .i64 1048576] rfl (by (try simp only [List.map_toArray, List.map_cons, List.map_nil]); first | done | rfl | (simp only [List.length_drop, List.length_take]; rfl)) ?_; (with_reducible refine (laws_szSystem.calls a0_0 _ _ l0_1 _ _ l0_2 _ _ l0_3 1048576 t690 _ ?side1 ?side2 ?side3 ?side4 ?side5 ?side6 A4.out).mono ?_); (case side1 => repeat (first | exact (Kd.C_below HR0_1.out HB.out) | (with_reducible refine Kd.C_alloc ?_ _) | (with_reducible refine Kd.C_drewN ?_ _) | (with_reducible refine Kd.C_drew ?_))); (case side2 => exact HC0_1.out); (case side3 => repeat (first | exact (Kd.C_below HR0_2.out HB.out) | (with_reducible refine Kd.C_alloc ?_ _) | (with_reducible refine Kd.C_drewN ?_ _) | (with_reducible refine Kd.C_drew ?_))); (case side4 => exact HC0_2.out); (case side5 => repeat (first | exact (Kd.C_below HR0_3.out HB.out) | (with_reducible refine Kd.C_alloc ?_ _) | (with_reducible refine Kd.C_drewN ?_ _) | (with_reducible refine Kd.C_drew ?_))); (case side6 => exact HC0_3.out); rintro e w8 ⟨rfl, hb⟩; refine ⟨_, rfl, ?_⟩; have n0_ := Aside0.mk (blk_below (g := gb689) (o := .cells #[.int .i64 a0_0, .slice A0_1 l0_1.length c0_1, .slice A0_2 l0_2.length c0_2, .slice A0_3 l0_3.length c0_3] 25 (0, 0)) (by (with_reducible repeat (first | refine blk_drewN ?_ _ | refine blk_drew ?_ | refine blk_alloc ?_ _)); exact BK689.out) hb); have n1_ := Aside0.mk (below_step (by repeat (first | (with_reducible first | exact HB.out | apply below_alloc | apply pw_below_drewN | apply below_drew1 | refine below_set ?_ GE689.out) | exact HB.out)) hb); clear BK689; clear HB; have BK689 := n0_; have HB := n1_; clear n0_ n1_; (try clear hb); (try clear hb2); (try clear hk); (try clear hi)))
    go_ret
    exact ⟨by first | rfl | (simp [errW_none, errW_some] <;> rfl) | (simp [*, errW_none, errW_some] <;> rfl), by repeat (first | (with_reducible first | exact HB.out | apply below_alloc | apply pw_below_drewN | apply below_drew1 | refine below_set ?_ GE689.out) | exact HB.out)⟩
  · rw [if_neg c5] at H
    have c5b0 : decide (t690 < 0) = false := decide_eq_false c5
    clear c5
    replace H := Option.bind_eq_some_iff.mp H
    obtain ⟨⟨t691, t692, t695, t698⟩, A90, H⟩ := H
    replace H : ((spec_MeetGrades.f k t691 t692 t695 t698 a1 a2).bind fun t701 => ((laws_toSystem.f k a0_0 l0_1 l0_2 l0_3).bind fun bt702 => ((impl_MeetGrades.f k bt702.1 bt702.2.1 bt702.2.2.1 bt702.2.2.2 a1 a2).bind fun t713 => (if t713 = t701 then ((laws_toSystem.f k a0_0 l0_1 l0_2 l0_3).bind fun bt714 => ((laws_eqSystem.f k bt702.1 bt702.2.1 bt702.2.2.1 bt702.2.2.2 bt714.1 bt714.2.1 bt714.2.2.1 bt714.2.2.2).bind fun t724 => (if t724 = true then (some true) else (some false)))) else (some false))))) = some r := H
    have A9 := Aside0.mk A90
    clear A90
    replace H := Option.bind_eq_some_iff.mp H
    obtain ⟨t701, A100, H⟩ := H
    replace H : ((laws_toSystem.f k a0_0 l0_1 l0_2 l0_3).bind fun bt702 => ((impl_MeetGrades.f k bt702.1 bt702.2.1 bt702.2.2.1 bt702.2.2.2 a1 a2).bind fun t713 => (if t713 = t701 then ((laws_toSystem.f k a0_0 l0_1 l0_2 l0_3).bind fun bt714 => ((laws_eqSystem.f k bt702.1 bt702.2.1 bt702.2.2.1 bt702.2.2.2 bt714.1 bt714.2.1 bt714.2.2.1 bt714.2.2.2).bind fun t724 => (if t724 = true then (some true) else (some false)))) else (some false)))) = some r := H
    have A10 := Aside0.mk A100
    clear A100
    replace H := Option.bind_eq_some_iff.mp H
    obtain ⟨⟨t702, t703, t706, t709⟩, A110, H⟩ := H
    replace H : ((impl_MeetGrades.f k t702 t703 t706 t709 a1 a2).bind fun t713 => (if t713 = t701 then ((laws_toSystem.f k a0_0 l0_1 l0_2 l0_3).bind fun bt714 => ((laws_eqSystem.f k t702 t703 t706 t709 bt714.1 bt714.2.1 bt714.2.2.1 bt714.2.2.2).bind fun t724 => (if t724 = true then (some true) else (some false)))) else (some false))) = some r := H
    have A11 := Aside0.mk A110
    clear A110
    replace H := Option.bind_eq_some_iff.mp H
    obtain ⟨t713, A120, H⟩ := H
    replace H : (if t713 = t701 then ((laws_toSystem.f k a0_0 l0_1 l0_2 l0_3).bind fun bt714 => ((laws_eqSystem.f k t702 t703 t706 t709 bt714.1 bt714.2.1 bt714.2.2.1 bt714.2.2.2).bind fun t724 => (if t724 = true then (some true) else (some false)))) else (some false)) = some r := H
    have A12 := Aside0.mk A120
    clear A120
    by_cases c13 : t713 = t701
    · rw [if_pos c13] at H
      have c13b0 : (t713 == t701) = true := beq_iff_eq.mpr c13
      have c13b1 : (t713 != t701) = false := bne_eq_false_iff_eq.mpr c13
      clear c13
      replace H := Option.bind_eq_some_iff.mp H
      obtain ⟨⟨t714, t715, t718, t721⟩, A140, H⟩ := H
      replace H : ((laws_eqSystem.f k t702 t703 t706 t709 t714 t715 t718 t721).bind fun t724 => (if t724 = true then (some true) else (some false))) = some r := H
      have A14 := Aside0.mk A140
      clear A140
      replace H := Option.bind_eq_some_iff.mp H
      obtain ⟨t724, A150, H⟩ := H
      replace H : (if t724 = true then (some true) else (some false)) = some r := H
      have A15 := Aside0.mk A150
      clear A150
      by_cases c16 : t724 = true
      · subst c16
        have H1 : (some true) = some r := by rw [if_pos rfl] at H; exact H
        clear H
        have H := H1
        clear H1
        obtain rfl := Option.some.inj H
        go_enter Try.func12, Try.ntmps12
        try go_wp2_with (first | ((with_reducible refine gate_dst (N := 3) rfl ?_); refine box_event ?hg (N := 3) ?hd (cs := #[.int .i64 a0_0, .slice A0_1 l0_1.length c0_1, .slice A0_2 l0_2.length c0_2, .slice A0_3 l0_3.length c0_3]) (t := 25) ?hr ?_; (case hd => rfl); (case hg => rfl); (case hr => first | (go_simp; done) | (go_simp; rfl)); intro gb689 hg w17 hbox hb; have n0_ := Aside0.mk (below_step (by repeat (first | (with_reducible first | exact HB.out | apply below_alloc | apply pw_below_drewN | apply below_drew1) | exact HB.out)) hb); have n1_ := Aside0.mk (hbox); have n2_ := Aside0.mk ((by rw [hg]; exact (below_size (by repeat (first | (with_reducible first | exact HB.out | apply below_alloc | apply pw_below_drewN | apply below_drew1) | exact HB.out))) : w.heap.size ≤ gb689)); have n3_ := Aside0.mk ((by rw [hg]; exact (below_size (by repeat (first | (with_reducible first | exact HB.out | apply below_alloc | apply pw_below_drewN | apply below_drew1) | exact HB.out))) : w.heap.size ≤ gb689)); clear HB; have HB := n0_; have BK689 := n1_; have GW689 := n2_; have GE689 := n3_; clear n0_ n1_ n2_ n3_; clear hb hbox hg; have hcz18_0 : w17.cell? ⟨gb689, 0, none⟩ = some (.int .i64 a0_0) := (blk_cell BK689.out 0).trans rfl; have hcz18_1 : w17.cell? ⟨gb689, 1, none⟩ = some (.slice A0_1 l0_1.length c0_1) := (blk_cell BK689.out 1).trans rfl; have hcz18_2 : w17.cell? ⟨gb689, 2, none⟩ = some (.slice A0_2 l0_2.length c0_2) := (blk_cell BK689.out 2).trans rfl; have hcz18_3 : w17.cell? ⟨gb689, 3, none⟩ = some (.slice A0_3 l0_3.length c0_3) := (blk_cell BK689.out 3).trans rfl; have hfz18_0 := blk_frozen BK689.out 0; have hfz18_1 := blk_frozen BK689.out 1; have hfz18_2 := blk_frozen BK689.out 2; have hfz18_3 := blk_frozen BK689.out 3) | ((with_reducible refine gate_callee (f := 15) rfl ?_); refine goesL_ (some 13) rfl rfl Try.func15 (by kernel_rfl) rfl #[.agg #[.int .i64 a0_0, .slice A0_1 l0_1.length c0_1, .slice A0_2 l0_2.length c0_2, .slice A0_3 l0_3.length c0_3], .int .i64 1048576] rfl (by (try simp only [List.map_toArray, List.map_cons, List.map_nil]); first | done | rfl | (simp only [List.length_drop, List.length_take]; rfl)) ?_; (with_reducible refine (laws_szSystem.calls a0_0 _ _ l0_1 _ _ l0_2 _ _ l0_3 1048576 t690 _ ?side1 ?side2 ?side3 ?side4 ?side5 ?side6 A4.out).mono ?_); (case side1 => repeat (first | exact (Kd.C_below HR0_1.out HB.out) | (with_reducible refine Kd.C_alloc ?_ _) | (with_reducible refine Kd.C_drewN ?_ _) | (with_reducible refine Kd.C_drew ?_))); (case side2 => exact HC0_1.out); (case side3 => repeat (first | exact (Kd.C_below HR0_2.out HB.out) | (with_reducible refine Kd.C_alloc ?_ _) | (with_reducible refine Kd.C_drewN ?_ _) | (with_reducible refine Kd.C_drew ?_))); (case side4 => exact HC0_2.out); (case side5 => repeat (first | exact (Kd.C_below HR0_3.out HB.out) | (with_reducible refine Kd.C_alloc ?_ _) | (with_reducible refine Kd.C_drewN ?_ _) | (with_reducible refine Kd.C_drew ?_))); (case side6 => exact HC0_3.out); rintro e w19 ⟨rfl, hb⟩; refine ⟨_, rfl, ?_⟩; have n0_ := Aside0.mk (blk_below (g := gb689) (o := .cells #[.int .i64 a0_0, .slice A0_1 l0_1.length c0_1, .slice A0_2 l0_2.length c0_2, .slice A0_3 l0_3.length c0_3] 25 (0, 0)) (by (with_reducible repeat (first | refine blk_drewN ?_ _ | refine blk_drew ?_ | refine blk_alloc ?_ _)); exact BK689.out) hb); have n1_ := Aside0.mk (below_step (by repeat (first | (with_reducible first | exact HB.out | apply below_alloc | apply pw_below_drewN | apply below_drew1 | refine below_set ?_ GE689.out) | exact HB.out)) hb); clear BK689; clear HB; have BK689 := n0_; have HB := n1_; clear n0_ n1_; (try clear hb); (try clear hb2); (try clear hk); (try clear hi); have hcz20_0 : w19.cell? ⟨gb689, 0, none⟩ = some (.int .i64 a0_0) := (blk_cell BK689.out 0).trans rfl; have hcz20_1 : w19.cell? ⟨gb689, 1, none⟩ = some (.slice A0_1 l0_1.length c0_1) := (blk_cell BK689.out 1).trans rfl; have hcz20_2 : w19.cell? ⟨gb689, 2, none⟩ = some (.slice A0_2 l0_2.length c0_2) := (blk_cell BK689.out 2).trans rfl; have hcz20_3 : w19.cell? ⟨gb689, 3, none⟩ = some (.slice A0_3 l0_3.length c0_3) := (blk_cell BK689.out 3).trans rfl; have hfz20_0 := blk_frozen BK689.out 0; have hfz20_1 := blk_frozen BK689.out 1; have hfz20_2 := blk_frozen BK689.out 2; have hfz20_3 := blk_frozen BK689.out 3) | ((with_reducible refine gate_callee (f := 17) rfl ?_); refine goesL_ (some 17) rfl rfl Try.func17 (by kernel_rfl) rfl #[.agg #[.int .i64 a0_0, .slice A0_1 l0_1.length c0_1, .slice A0_2 l0_2.length c0_2, .slice A0_3 l0_3.length c0_3]] rfl (by (try simp only [List.map_toArray, List.map_cons, List.map_nil]); first | done | rfl | (simp only [List.length_drop, List.length_take]; rfl)) ?_; (with_reducible refine (laws_toSystem.calls k a0_0 _ _ l0_1 _ _ l0_2 _ _ l0_3 t691 t692 t695 t698 _ ?side1 ?side2 ?side3 ?side4 ?side5 ?side6 A9.out).mono ?_); (case side1 => repeat (first | exact (Kd.C_below HR0_1.out HB.out) | (with_reducible refine Kd.C_alloc ?_ _) | (with_reducible refine Kd.C_drewN ?_ _) | (with_reducible refine Kd.C_drew ?_))); (case side2 => exact HC0_1.out); (case side3 => repeat (first | exact (Kd.C_below HR0_2.out HB.out) | (with_reducible refine Kd.C_alloc ?_ _) | (with_reducible refine Kd.C_drewN ?_ _) | (with_reducible refine Kd.C_drew ?_))); (case side4 => exact HC0_2.out); (case side5 => repeat (first | exact (Kd.C_below HR0_3.out HB.out) | (with_reducible refine Kd.C_alloc ?_ _) | (with_reducible refine Kd.C_drewN ?_ _) | (with_reducible refine Kd.C_drew ?_))); (case side6 => exact HC0_3.out); rintro e w21 ⟨v693, v696, v699, rfl, ho0, ho1, ho2, hb⟩; refine ⟨_, rfl, ?_⟩; have n0_ := Aside0.mk (Kd.R_lower ho0 (below_size (by repeat (first | (with_reducible first | exact HB.out | apply below_alloc | apply pw_below_drewN | apply below_drew1 | refine below_set ?_ GE689.out) | exact HB.out)))); have n1_ := Aside0.mk (Kd.R_lower ho1 (below_size (by repeat (first | (with_reducible first | exact HB.out | apply below_alloc | apply pw_below_drewN | apply below_drew1 | refine below_set ?_ GE689.out) | exact HB.out)))); have n2_ := Aside0.mk (Kd.R_lower ho2 (below_size (by repeat (first | (with_reducible first | exact HB.out | apply below_alloc | apply pw_below_drewN | apply below_drew1 | refine below_set ?_ GE689.out) | exact HB.out)))); have n3_ := Aside0.mk (blk_below (g := gb689) (o := .cells #[.int .i64 a0_0, .slice A0_1 l0_1.length c0_1, .slice A0_2 l0_2.length c0_2, .slice A0_3 l0_3.length c0_3] 25 (0, 0)) (by (with_reducible repeat (first | refine blk_drewN ?_ _ | refine blk_drew ?_ | refine blk_alloc ?_ _)); exact BK689.out) hb); have n4_ := Aside0.mk (below_step (by repeat (first | (with_reducible first | exact HB.out | apply below_alloc | apply pw_below_drewN | apply below_drew1 | refine below_set ?_ GE689.out) | exact HB.out)) hb); clear BK689; clear HB; have HO694 := n0_; have HO697 := n1_; have HO700 := n2_; have BK689 := n3_; have HB := n4_; clear n0_ n1_ n2_ n3_ n4_; (try clear hb); (try clear hb2); (try clear hk); (try clear hi); (try clear ho0); (try clear ho1); (try clear ho2); obtain ⟨Ao22, co22, eo22⟩ := Kd.R_slice HO694.out; subst eo22; obtain ⟨Ao23, co23, eo23⟩ := Kd.R_slice HO697.out; subst eo23; obtain ⟨Ao24, co24, eo24⟩ := Kd.R_slice HO700.out; subst eo24) | ((with_reducible refine gate_callee (f := 38) rfl ?_); refine goesL_ (some 20) rfl rfl Try.func38 (by kernel_rfl) rfl #[.agg #[.int .i64 t691, .slice Ao22 t692.length co22, .slice Ao23 t695.length co23, .slice Ao24 t698.length co24], .int .i64 a1, .int .i64 a2] rfl (by (try simp only [List.map_toArray, List.map_cons, List.map_nil]); first | done | rfl | (simp only [List.length_drop, List.length_take]; rfl)) ?_; (with_reducible refine (spec_MeetGrades.calls k t691 _ _ t692 _ _ t695 _ _ t698 a1 a2 t701 _ ?side1 ?side2 ?side3 ?side4 ?side5 ?side6 A10.out).mono ?_); (case side1 => repeat (first | exact (Kd.R_reads' HO694.out).2.2 | (with_reducible refine Kd.C_alloc ?_ _) | (with_reducible refine Kd.C_drewN ?_ _) | (with_reducible refine Kd.C_drew ?_))); (case side2 => exact (Kd.R_reads' HO694.out).2.1); (case side3 => repeat (first | exact (Kd.R_reads' HO697.out).2.2 | (with_reducible refine Kd.C_alloc ?_ _) | (with_reducible refine Kd.C_drewN ?_ _) | (with_reducible refine Kd.C_drew ?_))); (case side4 => exact (Kd.R_reads' HO697.out).2.1); (case side5 => repeat (first | exact (Kd.R_reads' HO700.out).2.2 | (with_reducible refine Kd.C_alloc ?_ _) | (with_reducible refine Kd.C_drewN ?_ _) | (with_reducible refine Kd.C_drew ?_))); (case side6 => exact (Kd.R_reads' HO700.out).2.1); rintro e w25 ⟨rfl, hb⟩; refine ⟨_, rfl, ?_⟩; have n0_ := Aside0.mk (Kd.R_below (by (with_reducible repeat (first | apply Kd.R_alloc | apply Kd.R_drewN | apply Kd.R_drew)); exact HO694.out) hb); have n1_ := Aside0.mk (Kd.R_below (by (with_reducible repeat (first | apply Kd.R_alloc | apply Kd.R_drewN | apply Kd.R_drew)); exact HO697.out) hb); have n2_ := Aside0.mk (Kd.R_below (by (with_reducible repeat (first | apply Kd.R_alloc | apply Kd.R_drewN | apply Kd.R_drew)); exact HO700.out) hb); have n3_ := Aside0.mk (blk_below (g := gb689) (o := .cells #[.int .i64 a0_0, .slice A0_1 l0_1.length c0_1, .slice A0_2 l0_2.length c0_2, .slice A0_3 l0_3.length c0_3] 25 (0, 0)) (by (with_reducible repeat (first | refine blk_drewN ?_ _ | refine blk_drew ?_ | refine blk_alloc ?_ _)); exact BK689.out) hb); have n4_ := Aside0.mk (below_step (by repeat (first | (with_reducible first | exact HB.out | apply below_alloc | apply pw_below_drewN | apply below_drew1 | refine below_set ?_ GE689.out) | exact HB.out)) hb); clear HO694; clear HO697; clear HO700; clear BK689; clear HB; have HO694 := n0_; have HO697 := n1_; have HO700 := n2_; have BK689 := n3_; have HB := n4_; clear n0_ n1_ n2_ n3_ n4_; (try clear hb); (try clear hb2); (try clear hk); (try clear hi); have hcz26_0 : w25.cell? ⟨gb689, 0, none⟩ = some (.int .i64 a0_0) := (blk_cell BK689.out 0).trans rfl; have hcz26_1 : w25.cell? ⟨gb689, 1, none⟩ = some (.slice A0_1 l0_1.length c0_1) := (blk_cell BK689.out 1).trans rfl; have hcz26_2 : w25.cell? ⟨gb689, 2, none⟩ = some (.slice A0_2 l0_2.length c0_2) := (blk_cell BK689.out 2).trans rfl; have hcz26_3 : w25.cell? ⟨gb689, 3, none⟩ = some (.slice A0_3 l0_3.length c0_3) := (blk_cell BK689.out 3).trans rfl; have hfz26_0 := blk_frozen BK689.out 0; have hfz26_1 := blk_frozen BK689.out 1; have hfz26_2 := blk_frozen BK689.out 2; have hfz26_3 := blk_frozen BK689.out 3) | ((with_reducible refine gate_callee (f := 17) rfl ?_); refine goesL_ (some 22) rfl rfl Try.func17 (by kernel_rfl) rfl #[.agg #[.int .i64 a0_0, .slice A0_1 l0_1.length c0_1, .slice A0_2 l0_2.length c0_2, .slice A0_3 l0_3.length c0_3]] rfl (by (try simp only [List.map_toArray, List.map_cons, List.map_nil]); first | done | rfl | (simp only [List.length_drop, List.length_take]; rfl)) ?_; (with_reducible refine (laws_toSystem.calls k a0_0 _ _ l0_1 _ _ l0_2 _ _ l0_3 t702 t703 t706 t709 _ ?side1 ?side2 ?side3 ?side4 ?side5 ?side6 A11.out).mono ?_); (case side1 => repeat (first | exact (Kd.C_below HR0_1.out HB.out) | (with_reducible refine Kd.C_alloc ?_ _) | (with_reducible refine Kd.C_drewN ?_ _) | (with_reducible refine Kd.C_drew ?_))); (case side2 => exact HC0_1.out); (case side3 => repeat (first | exact (Kd.C_below HR0_2.out HB.out) | (with_reducible refine Kd.C_alloc ?_ _) | (with_reducible refine Kd.C_drewN ?_ _) | (with_reducible refine Kd.C_drew ?_))); (case side4 => exact HC0_2.out); (case side5 => repeat (first | exact (Kd.C_below HR0_3.out HB.out) | (with_reducible refine Kd.C_alloc ?_ _) | (with_reducible refine Kd.C_drewN ?_ _) | (with_reducible refine Kd.C_drew ?_))); (case side6 => exact HC0_3.out); rintro e w27 ⟨v704, v707, v710, rfl, ho0, ho1, ho2, hb⟩; refine ⟨_, rfl, ?_⟩; have n0_ := Aside0.mk (Kd.R_mono (Kd.R_told (Kd.R_told (Kd.R_old (by (with_reducible repeat (first | apply Kd.R_alloc | apply Kd.R_drewN | apply Kd.R_drew)); exact HO694.out) hb) (Kd.R_base ho0)) (Kd.R_base ho1)) (fun _ h_ => h_.1)); have n1_ := Aside0.mk (Kd.R_mono (Kd.R_told (Kd.R_told (Kd.R_old (by (with_reducible repeat (first | apply Kd.R_alloc | apply Kd.R_drewN | apply Kd.R_drew)); exact HO697.out) hb) (Kd.R_base ho0)) (Kd.R_base ho1)) (fun _ h_ => h_.1)); have n2_ := Aside0.mk (Kd.R_elder' (by (with_reducible repeat (first | apply Kd.R_alloc | apply Kd.R_drewN | apply Kd.R_drew)); exact HO700.out) (Kd.R_base ho2) hb); have n3_ := Aside0.mk (Kd.R_lower (Kd.R_new' (Kd.R_new' ho0 (Kd.R_lt (by (with_reducible repeat (first | apply Kd.R_alloc | apply Kd.R_drewN | apply Kd.R_drew)); exact HO694.out))) (Kd.R_lt (by (with_reducible repeat (first | apply Kd.R_alloc | apply Kd.R_drewN | apply Kd.R_drew)); exact HO697.out))) (below_size (by repeat (first | (with_reducible first | exact HB.out | apply below_alloc | apply pw_below_drewN | apply below_drew1 | refine below_set ?_ GE689.out) | exact HB.out)))); have n4_ := Aside0.mk (Kd.R_lower (Kd.R_new' (Kd.R_new' ho1 (Kd.R_lt (by (with_reducible repeat (first | apply Kd.R_alloc | apply Kd.R_drewN | apply Kd.R_drew)); exact HO694.out))) (Kd.R_lt (by (with_reducible repeat (first | apply Kd.R_alloc | apply Kd.R_drewN | apply Kd.R_drew)); exact HO697.out))) (below_size (by repeat (first | (with_reducible first | exact HB.out | apply below_alloc | apply pw_below_drewN | apply below_drew1 | refine below_set ?_ GE689.out) | exact HB.out)))); have n5_ := Aside0.mk (Kd.R_lower (Kd.R_new' ho2 (Kd.R_lt (by (with_reducible repeat (first | apply Kd.R_alloc | apply Kd.R_drewN | apply Kd.R_drew)); exact HO700.out))) (below_size (by repeat (first | (with_reducible first | exact HB.out | apply below_alloc | apply pw_below_drewN | apply below_drew1 | refine below_set ?_ GE689.out) | exact HB.out)))); have n6_ := Aside0.mk (blk_below (g := gb689) (o := .cells #[.int .i64 a0_0, .slice A0_1 l0_1.length c0_1, .slice A0_2 l0_2.length c0_2, .slice A0_3 l0_3.length c0_3] 25 (0, 0)) (by (with_reducible repeat (first | refine blk_drewN ?_ _ | refine blk_drew ?_ | refine blk_alloc ?_ _)); exact BK689.out) hb); have n7_ := Aside0.mk (below_step (by repeat (first | (with_reducible first | exact HB.out | apply below_alloc | apply pw_below_drewN | apply below_drew1 | refine below_set ?_ GE689.out) | exact HB.out)) hb); clear HO694; clear HO697; clear HO700; clear BK689; clear HB; have HO694 := n0_; have HO697 := n1_; have HO700 := n2_; have HO705 := n3_; have HO708 := n4_; have HO711 := n5_; have BK689 := n6_; have HB := n7_; clear n0_ n1_ n2_ n3_ n4_ n5_ n6_ n7_; (try clear hb); (try clear hb2); (try clear hk); (try clear hi); (try clear ho0); (try clear ho1); (try clear ho2)) | ((with_reducible refine gate_dst (N := 9) rfl ?_); refine box_event ?hg (N := 9) ?hd (cs := #[.int .i64 0, .slice none 0 0, .slice none 0 0, .slice none 0 0]) (t := 28) ?hr ?_; (case hd => rfl); (case hg => rfl); (case hr => first | (go_simp; done) | (go_simp; rfl)); intro gb712 hg w28 hbox hb; have n0_ := Aside0.mk (Kd.R_below (by (with_reducible repeat (first | apply Kd.R_alloc | apply Kd.R_drewN | apply Kd.R_drew)); exact HO694.out) hb); have n1_ := Aside0.mk (Kd.R_below (by (with_reducible repeat (first | apply Kd.R_alloc | apply Kd.R_drewN | apply Kd.R_drew)); exact HO697.out) hb); have n2_ := Aside0.mk (Kd.R_below (by (with_reducible repeat (first | apply Kd.R_alloc | apply Kd.R_drewN | apply Kd.R_drew)); exact HO700.out) hb); have n3_ := Aside0.mk (Kd.R_below (by (with_reducible repeat (first | apply Kd.R_alloc | apply Kd.R_drewN | apply Kd.R_drew)); exact HO705.out) hb); have n4_ := Aside0.mk (Kd.R_below (by (with_reducible repeat (first | apply Kd.R_alloc | apply Kd.R_drewN | apply Kd.R_drew)); exact HO708.out) hb); have n5_ := Aside0.mk (Kd.R_below (by (with_reducible repeat (first | apply Kd.R_alloc | apply Kd.R_drewN | apply Kd.R_drew)); exact HO711.out) hb); have n6_ := Aside0.mk (blk_below (g := gb689) (o := .cells #[.int .i64 a0_0, .slice A0_1 l0_1.length c0_1, .slice A0_2 l0_2.length c0_2, .slice A0_3 l0_3.length c0_3] 25 (0, 0)) (by (with_reducible repeat (first | refine blk_drewN ?_ _ | refine blk_drew ?_ | refine blk_alloc ?_ _)); exact BK689.out) hb); have n7_ := Aside0.mk (below_step (by repeat (first | (with_reducible first | exact HB.out | apply below_alloc | apply pw_below_drewN | apply below_drew1 | refine below_set ?_ GE689.out) | exact HB.out)) hb); have n8_ := Aside0.mk (hbox); have n9_ := Aside0.mk ((by rw [hg]; exact (below_size (by repeat (first | (with_reducible first | exact HB.out | apply below_alloc | apply pw_below_drewN | apply below_drew1 | refine below_set ?_ GE689.out) | exact HB.out))) : w.heap.size ≤ gb712)); have n10_ := Aside0.mk ((by rw [hg]; exact (below_size (by repeat (first | (with_reducible first | exact HB.out | apply below_alloc | apply pw_below_drewN | apply below_drew1 | refine below_set ?_ GE689.out) | exact HB.out))) : w.heap.size ≤ gb712)); have n11_ := Aside0.mk ((by rw [hg]; exact Nat.ne_of_lt (blk_lt (g := gb689) (o := .cells #[.int .i64 a0_0, .slice A0_1 l0_1.length c0_1, .slice A0_2 l0_2.length c0_2, .slice A0_3 l0_3.length c0_3] 25 (0, 0)) (by (with_reducible repeat (first | refine blk_drewN ?_ _ | refine blk_drew ?_ | refine blk_alloc ?_ _)); exact BK689.out)) : gb689 ≠ gb712)); have n12_ := Aside0.mk ((by rw [hg]; exact Nat.ne_of_gt (blk_lt (g := gb689) (o := .cells #[.int .i64 a0_0, .slice A0_1 l0_1.length c0_1, .slice A0_2 l0_2.length c0_2, .slice A0_3 l0_3.length c0_3] 25 (0, 0)) (by (with_reducible repeat (first | refine blk_drewN ?_ _ | refine blk_drew ?_ | refine blk_alloc ?_ _)); exact BK689.out)) : gb712 ≠ gb689)); clear HO694; clear HO697; clear HO700; clear HO705; clear HO708; clear HO711; clear BK689; clear HB; have HO694 := n0_; have HO697 := n1_; have HO700 := n2_; have HO705 := n3_; have HO708 := n4_; have HO711 := n5_; have BK689 := n6_; have HB := n7_; have BK712 := n8_; have GW712 := n9_; have GE712 := n10_; have NB689_712 := n11_; have NB712_689 := n12_; clear n0_ n1_ n2_ n3_ n4_ n5_ n6_ n7_ n8_ n9_ n10_ n11_ n12_; clear hb hbox hg; have hnb29 := NB712_689.out; have hnc29 := NB689_712.out; have hcz30_0 : w28.cell? ⟨gb712, 0, none⟩ = some (.int .i64 0) := (blk_cell BK712.out 0).trans rfl; have hcz30_1 : w28.cell? ⟨gb712, 1, none⟩ = some (.slice none 0 0) := (blk_cell BK712.out 1).trans rfl; have hcz30_2 : w28.cell? ⟨gb712, 2, none⟩ = some (.slice none 0 0) := (blk_cell BK712.out 2).trans rfl; have hcz30_3 : w28.cell? ⟨gb712, 3, none⟩ = some (.slice none 0 0) := (blk_cell BK712.out 3).trans rfl; have hfz30_0 := blk_frozen BK712.out 0; have hfz30_1 := blk_frozen BK712.out 1; have hfz30_2 := blk_frozen BK712.out 2; have hfz30_3 := blk_frozen BK712.out 3; obtain ⟨Ao31, co31, eo31⟩ := Kd.R_slice HO705.out; subst eo31; obtain ⟨Ao32, co32, eo32⟩ := Kd.R_slice HO708.out; subst eo32; obtain ⟨Ao33, co33, eo33⟩ := Kd.R_slice HO711.out; subst eo33) | ((with_reducible refine gate_callee (f := 39) rfl ?_); refine goesL_ (some 26) rfl rfl Try.func39 (by kernel_rfl) rfl #[.agg #[.int .i64 t702, .slice Ao31 t703.length co31, .slice Ao32 t706.length co32, .slice Ao33 t709.length co33], .int .i64 a1, .int .i64 a2] rfl (by (try simp only [List.map_toArray, List.map_cons, List.map_nil]); first | done | rfl | (simp only [List.length_drop, List.length_take]; rfl)) ?_; (with_reducible refine (impl_MeetGrades.calls k t702 _ _ t703 _ _ t706 _ _ t709 a1 a2 t713 _ ?side1 ?side2 ?side3 ?side4 ?side5 ?side6 A12.out).mono ?_); (case side1 => refine (Kd.R_reads' (e := 3) (base := w.heap.size) (ok := fun k_ => ((some k_ ≠ (.slice Ao32 t706.length co32 : Value).ownBlock ∧ some k_ ≠ (.slice Ao22 t692.length co22 : Value).ownBlock) ∧ some k_ ≠ (.slice Ao23 t695.length co23 : Value).ownBlock)) (n := t703.length) (c := co31) ?_).2.2; exact (by (with_reducible repeat (first | apply Kd.R_alloc | apply Kd.R_drewN | apply Kd.R_drew)); exact (Kd.R_mono (Kd.R_far (p := ⟨gb712, 3, none⟩) (Kd.R_far (p := ⟨gb712, 2, none⟩) (Kd.R_far (p := ⟨gb712, 1, none⟩) (Kd.R_far (p := ⟨gb712, 0, none⟩) (Kd.R_types HO705.out BK712.out (by decide)) (fun _ hk => hk.2) (.int .i64 t702)) (fun _ hk => hk.2) (.slice Ao31 t703.length co31)) (fun _ hk => hk.2) (.slice Ao32 t706.length co32)) (fun _ hk => hk.2) (.slice Ao33 t709.length co33)) (fun _ h_ => h_.1)))); (case side2 => exact (Kd.R_reads' HO705.out).2.1); (case side3 => refine (Kd.R_reads' (e := 3) (base := w.heap.size) (ok := fun k_ => ((some k_ ≠ (.slice Ao31 t703.length co31 : Value).ownBlock ∧ some k_ ≠ (.slice Ao22 t692.length co22 : Value).ownBlock) ∧ some k_ ≠ (.slice Ao23 t695.length co23 : Value).ownBlock)) (n := t706.length) (c := co32) ?_).2.2; exact (by (with_reducible repeat (first | apply Kd.R_alloc | apply Kd.R_drewN | apply Kd.R_drew)); exact (Kd.R_mono (Kd.R_far (p := ⟨gb712, 3, none⟩) (Kd.R_far (p := ⟨gb712, 2, none⟩) (Kd.R_far (p := ⟨gb712, 1, none⟩) (Kd.R_far (p := ⟨gb712, 0, none⟩) (Kd.R_types HO708.out BK712.out (by decide)) (fun _ hk => hk.2) (.int .i64 t702)) (fun _ hk => hk.2) (.slice Ao31 t703.length co31)) (fun _ hk => hk.2) (.slice Ao32 t706.length co32)) (fun _ hk => hk.2) (.slice Ao33 t709.length co33)) (fun _ h_ => h_.1)))); (case side4 => exact (Kd.R_reads' HO708.out).2.1); (case side5 => refine (Kd.R_reads' (e := 4) (base := w.heap.size) (ok := fun k_ => (True ∧ some k_ ≠ (.slice Ao24 t698.length co24 : Value).ownBlock)) (n := t709.length) (c := co33) ?_).2.2; exact (by (with_reducible repeat (first | apply Kd.R_alloc | apply Kd.R_drewN | apply Kd.R_drew)); exact (Kd.R_mono (Kd.R_far (p := ⟨gb712, 3, none⟩) (Kd.R_far (p := ⟨gb712, 2, none⟩) (Kd.R_far (p := ⟨gb712, 1, none⟩) (Kd.R_far (p := ⟨gb712, 0, none⟩) (Kd.R_types HO711.out BK712.out (by decide)) (fun _ hk => hk.2) (.int .i64 t702)) (fun _ hk => hk.2) (.slice Ao31 t703.length co31)) (fun _ hk => hk.2) (.slice Ao32 t706.length co32)) (fun _ hk => hk.2) (.slice Ao33 t709.length co33)) (fun _ h_ => h_.1)))); (case side6 => exact (Kd.R_reads' HO711.out).2.1); rintro e w34 ⟨rfl, hb⟩; refine ⟨_, rfl, ?_⟩; have n0_ := Aside0.mk (Kd.R_below (by (with_reducible repeat (first | apply Kd.R_alloc | apply Kd.R_drewN | apply Kd.R_drew)); exact (Kd.R_mono (Kd.R_far (p := ⟨gb712, 3, none⟩) (Kd.R_far (p := ⟨gb712, 2, none⟩) (Kd.R_far (p := ⟨gb712, 1, none⟩) (Kd.R_far (p := ⟨gb712, 0, none⟩) (Kd.R_types HO694.out BK712.out (by decide)) (fun _ hk => hk.2) (.int .i64 t702)) (fun _ hk => hk.2) (.slice Ao31 t703.length co31)) (fun _ hk => hk.2) (.slice Ao32 t706.length co32)) (fun _ hk => hk.2) (.slice Ao33 t709.length co33)) (fun _ h_ => h_.1))) hb); have n1_ := Aside0.mk (Kd.R_below (by (with_reducible repeat (first | apply Kd.R_alloc | apply Kd.R_drewN | apply Kd.R_drew)); exact (Kd.R_mono (Kd.R_far (p := ⟨gb712, 3, none⟩) (Kd.R_far (p := ⟨gb712, 2, none⟩) (Kd.R_far (p := ⟨gb712, 1, none⟩) (Kd.R_far (p := ⟨gb712, 0, none⟩) (Kd.R_types HO697.out BK712.out (by decide)) (fun _ hk => hk.2) (.int .i64 t702)) (fun _ hk => hk.2) (.slice Ao31 t703.length co31)) (fun _ hk => hk.2) (.slice Ao32 t706.length co32)) (fun _ hk => hk.2) (.slice Ao33 t709.length co33)) (fun _ h_ => h_.1))) hb); have n2_ := Aside0.mk (Kd.R_below (by (with_reducible repeat (first | apply Kd.R_alloc | apply Kd.R_drewN | apply Kd.R_drew)); exact (Kd.R_mono (Kd.R_far (p := ⟨gb712, 3, none⟩) (Kd.R_far (p := ⟨gb712, 2, none⟩) (Kd.R_far (p := ⟨gb712, 1, none⟩) (Kd.R_far (p := ⟨gb712, 0, none⟩) (Kd.R_types HO700.out BK712.out (by decide)) (fun _ hk => hk.2) (.int .i64 t702)) (fun _ hk => hk.2) (.slice Ao31 t703.length co31)) (fun _ hk => hk.2) (.slice Ao32 t706.length co32)) (fun _ hk => hk.2) (.slice Ao33 t709.length co33)) (fun _ h_ => h_.1))) hb); have n3_ := Aside0.mk (Kd.R_below (by (with_reducible repeat (first | apply Kd.R_alloc | apply Kd.R_drewN | apply Kd.R_drew)); exact (Kd.R_mono (Kd.R_far (p := ⟨gb712, 3, none⟩) (Kd.R_far (p := ⟨gb712, 2, none⟩) (Kd.R_far (p := ⟨gb712, 1, none⟩) (Kd.R_far (p := ⟨gb712, 0, none⟩) (Kd.R_types HO705.out BK712.out (by decide)) (fun _ hk => hk.2) (.int .i64 t702)) (fun _ hk => hk.2) (.slice Ao31 t703.length co31)) (fun _ hk => hk.2) (.slice Ao32 t706.length co32)) (fun _ hk => hk.2) (.slice Ao33 t709.length co33)) (fun _ h_ => h_.1))) hb); have n4_ := Aside0.mk (Kd.R_below (by (with_reducible repeat (first | apply Kd.R_alloc | apply Kd.R_drewN | apply Kd.R_drew)); exact (Kd.R_mono (Kd.R_far (p := ⟨gb712, 3, none⟩) (Kd.R_far (p := ⟨gb712, 2, none⟩) (Kd.R_far (p := ⟨gb712, 1, none⟩) (Kd.R_far (p := ⟨gb712, 0, none⟩) (Kd.R_types HO708.out BK712.out (by decide)) (fun _ hk => hk.2) (.int .i64 t702)) (fun _ hk => hk.2) (.slice Ao31 t703.length co31)) (fun _ hk => hk.2) (.slice Ao32 t706.length co32)) (fun _ hk => hk.2) (.slice Ao33 t709.length co33)) (fun _ h_ => h_.1))) hb); have n5_ := Aside0.mk (Kd.R_below (by (with_reducible repeat (first | apply Kd.R_alloc | apply Kd.R_drewN | apply Kd.R_drew)); exact (Kd.R_mono (Kd.R_far (p := ⟨gb712, 3, none⟩) (Kd.R_far (p := ⟨gb712, 2, none⟩) (Kd.R_far (p := ⟨gb712, 1, none⟩) (Kd.R_far (p := ⟨gb712, 0, none⟩) (Kd.R_types HO711.out BK712.out (by decide)) (fun _ hk => hk.2) (.int .i64 t702)) (fun _ hk => hk.2) (.slice Ao31 t703.length co31)) (fun _ hk => hk.2) (.slice Ao32 t706.length co32)) (fun _ hk => hk.2) (.slice Ao33 t709.length co33)) (fun _ h_ => h_.1))) hb); have n6_ := Aside0.mk (blk_below (g := gb689) (o := .cells #[.int .i64 a0_0, .slice A0_1 l0_1.length c0_1, .slice A0_2 l0_2.length c0_2, .slice A0_3 l0_3.length c0_3] 25 (0, 0)) (by (with_reducible repeat (first | refine blk_drewN ?_ _ | refine blk_drew ?_ | refine blk_alloc ?_ _)); refine blk_far ?_ NB689_712.out _; (with_reducible repeat (first | refine blk_drewN ?_ _ | refine blk_drew ?_ | refine blk_alloc ?_ _)); refine blk_far ?_ NB689_712.out _; (with_reducible repeat (first | refine blk_drewN ?_ _ | refine blk_drew ?_ | refine blk_alloc ?_ _)); refine blk_far ?_ NB689_712.out _; (with_reducible repeat (first | refine blk_drewN ?_ _ | refine blk_drew ?_ | refine blk_alloc ?_ _)); refine blk_far ?_ NB689_712.out _; (with_reducible repeat (first | refine blk_drewN ?_ _ | refine blk_drew ?_ | refine blk_alloc ?_ _)); exact BK689.out) hb); have n7_ := Aside0.mk (blk_below (g := gb712) (o := .cells #[.int .i64 t702, .slice Ao31 t703.length co31, .slice Ao32 t706.length co32, .slice Ao33 t709.length co33] 28 (0, 0)) (by (with_reducible repeat (first | refine blk_drewN ?_ _ | refine blk_drew ?_ | refine blk_alloc ?_ _)); refine blk_put (cs := #[.int .i64 t702, .slice Ao31 t703.length co31, .slice Ao32 t706.length co32, .slice none 0 0]) ?_ 3 _ rfl; (with_reducible repeat (first | refine blk_drewN ?_ _ | refine blk_drew ?_ | refine blk_alloc ?_ _)); refine blk_put (cs := #[.int .i64 t702, .slice Ao31 t703.length co31, .slice none 0 0, .slice none 0 0]) ?_ 2 _ rfl; (with_reducible repeat (first | refine blk_drewN ?_ _ | refine blk_drew ?_ | refine blk_alloc ?_ _)); refine blk_put (cs := #[.int .i64 t702, .slice none 0 0, .slice none 0 0, .slice none 0 0]) ?_ 1 _ rfl; (with_reducible repeat (first | refine blk_drewN ?_ _ | refine blk_drew ?_ | refine blk_alloc ?_ _)); refine blk_put (cs := #[.int .i64 0, .slice none 0 0, .slice none 0 0, .slice none 0 0]) ?_ 0 _ rfl; (with_reducible repeat (first | refine blk_drewN ?_ _ | refine blk_drew ?_ | refine blk_alloc ?_ _)); exact BK712.out) hb); have n8_ := Aside0.mk (below_step (by repeat (first | (with_reducible first | exact HB.out | apply below_alloc | apply pw_below_drewN | apply below_drew1 | refine below_set ?_ GE689.out | refine below_set ?_ GE712.out) | exact HB.out)) hb); clear HO694; clear HO697; clear HO700; clear HO705; clear HO708; clear HO711; clear BK689; clear BK712; clear HB; have HO694 := n0_; have HO697 := n1_; have HO700 := n2_; have HO705 := n3_; have HO708 := n4_; have HO711 := n5_; have BK689 := n6_; have BK712 := n7_; have HB := n8_; clear n0_ n1_ n2_ n3_ n4_ n5_ n6_ n7_ n8_; (try clear hb); (try clear hb2); (try clear hk); (try clear hi)))
        have n0_ := Aside0.mk (Kd.R_drew HO694.out)
        have n1_ := Aside0.mk (Kd.R_drew HO697.out)
        have n2_ := Aside0.mk (Kd.R_drew HO700.out)
        have n3_ := Aside0.mk (Kd.R_drew HO705.out)
        have n4_ := Aside0.mk (Kd.R_drew HO708.out)
        have n5_ := Aside0.mk (Kd.R_drew HO711.out)
        have n6_ := Aside0.mk (blk_drew BK689.out)
        have n7_ := Aside0.mk (blk_drew BK712.out)
        have n8_ := Aside0.mk (below_drew1 HB.out)
        clear HO694
        clear HO697
        clear HO700
        clear HO705
        clear HO708
        clear HO711
        clear BK689
        clear BK712
        clear HB
        have HO694 := n0_
        have HO697 := n1_
        have HO700 := n2_
        have HO705 := n3_
        have HO708 := n4_
        have HO711 := n5_
        have BK689 := n6_
        have BK712 := n7_
        have HB := n8_
        clear n0_ n1_ n2_ n3_ n4_ n5_ n6_ n7_ n8_
        refine start_ (n := 5) (S := fun w' => w'.cell? ⟨gb712, 0, none⟩ = some (.int .i64 t702) ∧ w'.cell? ⟨gb712, 1, none⟩ = some (.slice Ao31 t703.length co31) ∧ w'.cell? ⟨gb712, 2, none⟩ = some (.slice Ao32 t706.length co32) ∧ w'.cell? ⟨gb712, 3, none⟩ = some (.slice Ao33 t709.length co33) ∧ w'.cell? ⟨gb689, 0, none⟩ = some (.int .i64 a0_0) ∧ w'.cell? ⟨gb689, 1, none⟩ = some (.slice A0_1 l0_1.length c0_1) ∧ w'.cell? ⟨gb689, 2, none⟩ = some (.slice A0_2 l0_2.length c0_2) ∧ w'.cell? ⟨gb689, 3, none⟩ = some (.slice A0_3 l0_3.length c0_3)) (ds := []) #[false, false, false, false, false] (by kernel_rfl) rfl rfl ⟨(blk_cell BK712.out 0).trans rfl, (blk_cell BK712.out 1).trans rfl, (blk_cell BK712.out 2).trans rfl, (blk_cell BK712.out 3).trans rfl, (blk_cell BK689.out 0).trans rfl, (blk_cell BK689.out 1).trans rfl, (blk_cell BK689.out 2).trans rfl, (blk_cell BK689.out 3).trans rfl⟩ (fun hHeld => ?_)
        generalize w34.drew = w35 at HO694 HO697 HO700 HO705 HO708 HO711 BK689 BK712 HB hHeld ⊢
        refine take_ (i := 0) (N := some 30) (v := ?_) (a' := ?_) #[true, false, false, false, false] rfl rfl (by kernel_rfl) (fun _ _ _ h => h) (Or.inl ⟨by rfl, ?_⟩) hHeld ?_ ?_
        rotate_left
        · rintro w' ⟨s0, s1, s2, s3, s4, s5, s6, s7⟩
          go_simp
          with_reducible rfl
        rotate_left
        · simp only [Act.put, List.setIfInBounds_toArray, List.set_cons_zero, List.set_cons_succ, i64_w, i32_w]
          rfl
        refine take_ (i := 1) (N := some 31) (v := ?_) (a' := ?_) #[true, true, false, false, false] rfl rfl (by kernel_rfl) (fun _ _ _ h => h) (Or.inl ⟨by rfl, ?_⟩) hHeld ?_ ?_
        rotate_left
        · rintro w' ⟨s0, s1, s2, s3, s4, s5, s6, s7⟩
          go_simp
          with_reducible rfl
        rotate_left
        · simp only [Act.put, List.setIfInBounds_toArray, List.set_cons_zero, List.set_cons_succ, i64_w, i32_w]
          rfl
        refine one_ (i := 2) (N := some 32) #[true, true, true, false, false] rfl rfl (by kernel_rfl) (by decide) (fun K hK => ?_)
        refine goes_ Try.func17 (by kernel_rfl) rfl #[.agg #[.int .i64 a0_0, .slice A0_1 l0_1.length c0_1, .slice A0_2 l0_2.length c0_2, .slice A0_3 l0_3.length c0_3]] (by rfl) rfl rfl (by (try simp only [List.map_toArray, List.map_cons, List.map_nil]); first | done | rfl | (simp only [List.length_drop, List.length_take]; rfl)) ?_
        with_reducible refine (laws_toSystem.calls k a0_0 _ _ l0_1 _ _ l0_2 _ _ l0_3 t714 t715 t718 t721 _ ?side1 ?side2 ?side3 ?side4 ?side5 ?side6 A14.out).mono ?_
        (case side1 => repeat (first | exact (Kd.C_below HR0_1.out HB.out) | (with_reducible refine Kd.C_alloc ?_ _) | (with_reducible refine Kd.C_drewN ?_ _) | (with_reducible refine Kd.C_drew ?_)))
        (case side2 => exact HC0_1.out)
        (case side3 => repeat (first | exact (Kd.C_below HR0_2.out HB.out) | (with_reducible refine Kd.C_alloc ?_ _) | (with_reducible refine Kd.C_drewN ?_ _) | (with_reducible refine Kd.C_drew ?_)))
        (case side4 => exact HC0_2.out)
        (case side5 => repeat (first | exact (Kd.C_below HR0_3.out HB.out) | (with_reducible refine Kd.C_alloc ?_ _) | (with_reducible refine Kd.C_drewN ?_ _) | (with_reducible refine Kd.C_drew ?_)))
        (case side6 => exact HC0_3.out)
        rintro e w36 ⟨v716, v719, v722, rfl, ho0, ho1, ho2, hb⟩
        refine ⟨_, rfl, ?_⟩
        have n0_ := Aside0.mk (Kd.R_mono (Kd.R_told (Kd.R_told (Kd.R_old (by (with_reducible repeat (first | apply Kd.R_alloc | apply Kd.R_drewN | apply Kd.R_drew)); exact HO694.out) hb) (Kd.R_base ho0)) (Kd.R_base ho1)) (fun _ h_ => h_.1))
        have n1_ := Aside0.mk (Kd.R_mono (Kd.R_told (Kd.R_told (Kd.R_old (by (with_reducible repeat (first | apply Kd.R_alloc | apply Kd.R_drewN | apply Kd.R_drew)); exact HO697.out) hb) (Kd.R_base ho0)) (Kd.R_base ho1)) (fun _ h_ => h_.1))
        have n2_ := Aside0.mk (Kd.R_elder' (by (with_reducible repeat (first | apply Kd.R_alloc | apply Kd.R_drewN | apply Kd.R_drew)); exact HO700.out) (Kd.R_base ho2) hb)
        have n3_ := Aside0.mk (Kd.R_mono (Kd.R_told (Kd.R_told (Kd.R_old (by (with_reducible repeat (first | apply Kd.R_alloc | apply Kd.R_drewN | apply Kd.R_drew)); exact HO705.out) hb) (Kd.R_base ho0)) (Kd.R_base ho1)) (fun _ h_ => h_.1))
        have n4_ := Aside0.mk (Kd.R_mono (Kd.R_told (Kd.R_told (Kd.R_old (by (with_reducible repeat (first | apply Kd.R_alloc | apply Kd.R_drewN | apply Kd.R_drew)); exact HO708.out) hb) (Kd.R_base ho0)) (Kd.R_base ho1)) (fun _ h_ => h_.1))
        have n5_ := Aside0.mk (Kd.R_elder' (by (with_reducible repeat (first | apply Kd.R_alloc | apply Kd.R_drewN | apply Kd.R_drew)); exact HO711.out) (Kd.R_base ho2) hb)
        have n6_ := Aside0.mk (Kd.R_lower (Kd.R_new' (Kd.R_new' (Kd.R_new' (Kd.R_new' ho0 (Kd.R_lt (by (with_reducible repeat (first | apply Kd.R_alloc | apply Kd.R_drewN | apply Kd.R_drew)); exact HO694.out))) (Kd.R_lt (by (with_reducible repeat (first | apply Kd.R_alloc | apply Kd.R_drewN | apply Kd.R_drew)); exact HO697.out))) (Kd.R_lt (by (with_reducible repeat (first | apply Kd.R_alloc | apply Kd.R_drewN | apply Kd.R_drew)); exact HO705.out))) (Kd.R_lt (by (with_reducible repeat (first | apply Kd.R_alloc | apply Kd.R_drewN | apply Kd.R_drew)); exact HO708.out))) (below_size (by repeat (first | (with_reducible first | exact HB.out | apply below_alloc | apply pw_below_drewN | apply below_drew1 | refine below_set ?_ GE689.out | refine below_set ?_ GE712.out) | exact HB.out))))
        have n7_ := Aside0.mk (Kd.R_lower (Kd.R_new' (Kd.R_new' (Kd.R_new' (Kd.R_new' ho1 (Kd.R_lt (by (with_reducible repeat (first | apply Kd.R_alloc | apply Kd.R_drewN | apply Kd.R_drew)); exact HO694.out))) (Kd.R_lt (by (with_reducible repeat (first | apply Kd.R_alloc | apply Kd.R_drewN | apply Kd.R_drew)); exact HO697.out))) (Kd.R_lt (by (with_reducible repeat (first | apply Kd.R_alloc | apply Kd.R_drewN | apply Kd.R_drew)); exact HO705.out))) (Kd.R_lt (by (with_reducible repeat (first | apply Kd.R_alloc | apply Kd.R_drewN | apply Kd.R_drew)); exact HO708.out))) (below_size (by repeat (first | (with_reducible first | exact HB.out | apply below_alloc | apply pw_below_drewN | apply below_drew1 | refine below_set ?_ GE689.out | refine below_set ?_ GE712.out) | exact HB.out))))
        have n8_ := Aside0.mk (Kd.R_lower (Kd.R_new' (Kd.R_new' ho2 (Kd.R_lt (by (with_reducible repeat (first | apply Kd.R_alloc | apply Kd.R_drewN | apply Kd.R_drew)); exact HO700.out))) (Kd.R_lt (by (with_reducible repeat (first | apply Kd.R_alloc | apply Kd.R_drewN | apply Kd.R_drew)); exact HO711.out))) (below_size (by repeat (first | (with_reducible first | exact HB.out | apply below_alloc | apply pw_below_drewN | apply below_drew1 | refine below_set ?_ GE689.out | refine below_set ?_ GE712.out) | exact HB.out))))
        have n9_ := Aside0.mk (blk_below (g := gb689) (o := .cells #[.int .i64 a0_0, .slice A0_1 l0_1.length c0_1, .slice A0_2 l0_2.length c0_2, .slice A0_3 l0_3.length c0_3] 25 (0, 0)) (by (with_reducible repeat (first | refine blk_drewN ?_ _ | refine blk_drew ?_ | refine blk_alloc ?_ _)); exact BK689.out) hb)
        have n10_ := Aside0.mk (blk_below (g := gb712) (o := .cells #[.int .i64 t702, .slice Ao31 t703.length co31, .slice Ao32 t706.length co32, .slice Ao33 t709.length co33] 28 (0, 0)) (by (with_reducible repeat (first | refine blk_drewN ?_ _ | refine blk_drew ?_ | refine blk_alloc ?_ _)); exact BK712.out) hb)
        have n11_ := Aside0.mk (below_step (by repeat (first | (with_reducible first | exact HB.out | apply below_alloc | apply pw_below_drewN | apply below_drew1 | refine below_set ?_ GE689.out | refine below_set ?_ GE712.out) | exact HB.out)) hb)
        clear HO694
        clear HO697
        clear HO700
        clear HO705
        clear HO708
        clear HO711
        clear BK689
        clear BK712
        clear HB
        have HO694 := n0_
        have HO697 := n1_
        have HO700 := n2_
        have HO705 := n3_
        have HO708 := n4_
        have HO711 := n5_
        have HO717 := n6_
        have HO720 := n7_
        have HO723 := n8_
        have BK689 := n9_
        have BK712 := n10_
        have HB := n11_
        clear n0_ n1_ n2_ n3_ n4_ n5_ n6_ n7_ n8_ n9_ n10_ n11_
        (try clear hb)
        (try clear hb2)
        (try clear hk)
        (try clear hi)
        (try clear ho0)
        (try clear ho1)
        (try clear ho2)
        obtain ⟨Ao37, co37, eo37⟩ := Kd.R_slice HO717.out
        (first | subst eo37 | (injection eo37 with f1_ f2_ f3_; have f4_ := f1_.symm; have f5_ := f3_.symm; clear f1_ f2_ f3_; subst f4_; subst f5_))
        obtain ⟨Ao38, co38, eo38⟩ := Kd.R_slice HO720.out
        (first | subst eo38 | (injection eo38 with f1_ f2_ f3_; have f4_ := f1_.symm; have f5_ := f3_.symm; clear f1_ f2_ f3_; subst f4_; subst f5_))
        obtain ⟨Ao39, co39, eo39⟩ := Kd.R_slice HO723.out
        (first | subst eo39 | (injection eo39 with f1_ f2_ f3_; have f4_ := f1_.symm; have f5_ := f3_.symm; clear f1_ f2_ f3_; subst f4_; subst f5_))
        refine hK.out _ _ ⟨(blk_cell BK712.out 0).trans rfl, (blk_cell BK712.out 1).trans rfl, (blk_cell BK712.out 2).trans rfl, (blk_cell BK712.out 3).trans rfl, (blk_cell BK689.out 0).trans rfl, (blk_cell BK689.out 1).trans rfl, (blk_cell BK689.out 2).trans rfl, (blk_cell BK689.out 3).trans rfl⟩ (fun hHeld => ?_)
        clear hK K
        refine norm_ (a' := ?_) ?_ ?_
        rotate_left
        · show Act.put _ (some 32) _ = _
          simp only [Act.put, List.setIfInBounds_toArray, List.set_cons_zero, List.set_cons_succ, i64_w, i32_w]
          rfl
        refine one_ (i := 3) (N := some 33) #[true, true, true, true, false] rfl rfl (by kernel_rfl) (by decide) (fun K hK => ?_)
        refine goes_ Try.func19 (by kernel_rfl) rfl #[.agg #[.int .i64 t702, .slice Ao31 t703.length co31, .slice Ao32 t706.length co32, .slice Ao33 t709.length co33], .agg #[.int .i64 t714, .slice Ao37 t715.length co37, .slice Ao38 t718.length co38, .slice Ao39 t721.length co39]] (by rfl) rfl rfl (by (try simp only [List.map_toArray, List.map_cons, List.map_nil]); first | done | rfl | (simp only [List.length_drop, List.length_take]; rfl)) ?_
        with_reducible refine (laws_eqSystem.calls k t702 _ _ t703 _ _ t706 _ _ t709 t714 _ _ t715 _ _ t718 _ _ t721 true _ ?side1 ?side2 ?side3 ?side4 ?side5 ?side6 ?side7 ?side8 ?side9 ?side10 ?side11 ?side12 A15.out).mono ?_
        (case side1 => repeat (first | exact (Kd.R_reads' HO705.out).2.2 | (with_reducible refine Kd.C_alloc ?_ _) | (with_reducible refine Kd.C_drewN ?_ _) | (with_reducible refine Kd.C_drew ?_)))
        (case side2 => exact (Kd.R_reads' HO705.out).2.1)
        (case side3 => repeat (first | exact (Kd.R_reads' HO708.out).2.2 | (with_reducible refine Kd.C_alloc ?_ _) | (with_reducible refine Kd.C_drewN ?_ _) | (with_reducible refine Kd.C_drew ?_)))
        (case side4 => exact (Kd.R_reads' HO708.out).2.1)
        (case side5 => repeat (first | exact (Kd.R_reads' HO711.out).2.2 | (with_reducible refine Kd.C_alloc ?_ _) | (with_reducible refine Kd.C_drewN ?_ _) | (with_reducible refine Kd.C_drew ?_)))
        (case side6 => exact (Kd.R_reads' HO711.out).2.1)
        (case side7 => repeat (first | exact (Kd.R_reads' HO717.out).2.2 | (with_reducible refine Kd.C_alloc ?_ _) | (with_reducible refine Kd.C_drewN ?_ _) | (with_reducible refine Kd.C_drew ?_)))
        (case side8 => exact (Kd.R_reads' HO717.out).2.1)
        (case side9 => repeat (first | exact (Kd.R_reads' HO720.out).2.2 | (with_reducible refine Kd.C_alloc ?_ _) | (with_reducible refine Kd.C_drewN ?_ _) | (with_reducible refine Kd.C_drew ?_)))
        (case side10 => exact (Kd.R_reads' HO720.out).2.1)
        (case side11 => repeat (first | exact (Kd.R_reads' HO723.out).2.2 | (with_reducible refine Kd.C_alloc ?_ _) | (with_reducible refine Kd.C_drewN ?_ _) | (with_reducible refine Kd.C_drew ?_)))
        (case side12 => exact (Kd.R_reads' HO723.out).2.1)
        rintro e w40 ⟨rfl, hb⟩
        refine ⟨_, rfl, ?_⟩
        have n0_ := Aside0.mk (Kd.R_below (by (with_reducible repeat (first | apply Kd.R_alloc | apply Kd.R_drewN | apply Kd.R_drew)); exact HO694.out) hb)
        have n1_ := Aside0.mk (Kd.R_below (by (with_reducible repeat (first | apply Kd.R_alloc | apply Kd.R_drewN | apply Kd.R_drew)); exact HO697.out) hb)
        have n2_ := Aside0.mk (Kd.R_below (by (with_reducible repeat (first | apply Kd.R_alloc | apply Kd.R_drewN | apply Kd.R_drew)); exact HO700.out) hb)
        have n3_ := Aside0.mk (Kd.R_below (by (with_reducible repeat (first | apply Kd.R_alloc | apply Kd.R_drewN | apply Kd.R_drew)); exact HO705.out) hb)
        have n4_ := Aside0.mk (Kd.R_below (by (with_reducible repeat (first | apply Kd.R_alloc | apply Kd.R_drewN | apply Kd.R_drew)); exact HO708.out) hb)
        have n5_ := Aside0.mk (Kd.R_below (by (with_reducible repeat (first | apply Kd.R_alloc | apply Kd.R_drewN | apply Kd.R_drew)); exact HO711.out) hb)
        have n6_ := Aside0.mk (Kd.R_below (by (with_reducible repeat (first | apply Kd.R_alloc | apply Kd.R_drewN | apply Kd.R_drew)); exact HO717.out) hb)
        have n7_ := Aside0.mk (Kd.R_below (by (with_reducible repeat (first | apply Kd.R_alloc | apply Kd.R_drewN | apply Kd.R_drew)); exact HO720.out) hb)
        have n8_ := Aside0.mk (Kd.R_below (by (with_reducible repeat (first | apply Kd.R_alloc | apply Kd.R_drewN | apply Kd.R_drew)); exact HO723.out) hb)
        have n9_ := Aside0.mk (blk_below (g := gb689) (o := .cells #[.int .i64 a0_0, .slice A0_1 l0_1.length c0_1, .slice A0_2 l0_2.length c0_2, .slice A0_3 l0_3.length c0_3] 25 (0, 0)) (by (with_reducible repeat (first | refine blk_drewN ?_ _ | refine blk_drew ?_ | refine blk_alloc ?_ _)); exact BK689.out) hb)
        have n10_ := Aside0.mk (blk_below (g := gb712) (o := .cells #[.int .i64 t702, .slice Ao31 t703.length co31, .slice Ao32 t706.length co32, .slice Ao33 t709.length co33] 28 (0, 0)) (by (with_reducible repeat (first | refine blk_drewN ?_ _ | refine blk_drew ?_ | refine blk_alloc ?_ _)); exact BK712.out) hb)
        have n11_ := Aside0.mk (below_step (by repeat (first | (with_reducible first | exact HB.out | apply below_alloc | apply pw_below_drewN | apply below_drew1 | refine below_set ?_ GE689.out | refine below_set ?_ GE712.out) | exact HB.out)) hb)
        clear HO694
        clear HO697
        clear HO700
        clear HO705
        clear HO708
        clear HO711
        clear HO717
        clear HO720
        clear HO723
        clear BK689
        clear BK712
        clear HB
        have HO694 := n0_
        have HO697 := n1_
        have HO700 := n2_
        have HO705 := n3_
        have HO708 := n4_
        have HO711 := n5_
        have HO717 := n6_
        have HO720 := n7_
        have HO723 := n8_
        have BK689 := n9_
        have BK712 := n10_
        have HB := n11_
        clear n0_ n1_ n2_ n3_ n4_ n5_ n6_ n7_ n8_ n9_ n10_ n11_
        (try clear hb)
        (try clear hb2)
        (try clear hk)
        (try clear hi)
        refine hK.out _ _ ⟨(blk_cell BK712.out 0).trans rfl, (blk_cell BK712.out 1).trans rfl, (blk_cell BK712.out 2).trans rfl, (blk_cell BK712.out 3).trans rfl, (blk_cell BK689.out 0).trans rfl, (blk_cell BK689.out 1).trans rfl, (blk_cell BK689.out 2).trans rfl, (blk_cell BK689.out 3).trans rfl⟩ (fun hHeld => ?_)
        clear hK K
        refine norm_ (a' := ?_) ?_ ?_
        rotate_left
        · show Act.put _ (some 33) _ = _
          simp only [Act.put, List.setIfInBounds_toArray, List.set_cons_zero, List.set_cons_succ, i64_w, i32_w]
          rfl
        refine pure_ (i := 4) (N := some 34) (v := ?_) (a' := ?_) #[true, true, true, true, true] rfl rfl (by kernel_rfl) (fun _ _ _ h => h) (Or.inl ⟨by rfl, ?_⟩) ?_ ?_
        rotate_left
        · intro w'
          go_simp
          with_reducible rfl
        rotate_left
        · simp only [Act.put, List.setIfInBounds_toArray, List.set_cons_zero, List.set_cons_succ, i64_w, i32_w]
          rfl
        refine done_ (by kernel_rfl) ?_
        try go_wp2
        go_ret
        exact ⟨by first | rfl | (simp [errW_none, errW_some] <;> rfl) | (simp [*, errW_none, errW_some] <;> rfl), by repeat (first | (with_reducible first | exact HB.out | apply below_alloc | apply pw_below_drewN | apply below_drew1 | refine below_set ?_ GE689.out | refine below_set ?_ GE712.out) | exact HB.out)⟩
      · replace c16 := Bool.eq_false_iff.mpr c16
        subst c16
        have H1 : (some false) = some r := by rw [if_neg (show ¬ (false = true) by decide)] at H; exact H
        clear H
        have H := H1
        clear H1
        obtain rfl := Option.some.inj H
        exact absurd hr_ (by decide)
    · rw [if_neg c13] at H
      have c13b0 : (t713 == t701) = false := beq_eq_false_iff_ne.mpr c13
      have c13b1 : (t713 != t701) = true := bne_iff_ne.mpr c13
      obtain rfl := Option.some.inj H
      exact absurd hr_ (by decide)

def laws_FnExactMeetGrades.Pure : Prop := ∀ (a0_0 : Int) (l0_1 : List Int) (l0_2 : List Int) (l0_3 : List Bool) (a1 : Int) (a2 : Int), (Lit.int .i64 a0_0).wf = true → ((∀ z ∈ l0_1, (Lit.int .i64 z).wf = true) ∧ l0_1.length ≤ maxLen) → ((∀ z ∈ l0_2, (Lit.int .i64 z).wf = true) ∧ l0_2.length ≤ maxLen) → ((∀ z ∈ l0_3, True) ∧ l0_3.length ≤ maxLen) → (Lit.int .i64 a1).wf = true → (Lit.int .i64 a2).wf = true → ∃ k, laws_FnExactMeetGrades.f k a0_0 l0_1 l0_2 l0_3 a1 a2 = some true

end Go.Proofs.Ythdbijjkcoafiaa.P
