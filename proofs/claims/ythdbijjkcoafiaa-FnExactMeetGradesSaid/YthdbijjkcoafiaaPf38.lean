-- Printed by this session's own program (wip/tools/mkprint.py) out of the translation. Not trusted: Lean checks it.
import Derived.Test.YthdbijjkcoafiaaP0
import Derived.Test.YthdbijjkcoafiaaPf60
import Derived.Test.YthdbijjkcoafiaaPf61
namespace Go.Proofs.Ythdbijjkcoafiaa.P
open Go.RowKit Go.Proofs.YthdbijjkcoafiaaW.PrintWords Go.Proofs.YthdbijjkcoafiaaW.PrintLast Go.Proofs.YthdbijjkcoafiaaW.PrintMore
attribute [local go_sem] max2_int min2_int max_two min_two max_three min_three max_four min_four   -- for this text's walks alone
set_option linter.unusedVariables false
set_option linter.unusedSimpArgs false

/-! ### spec_MeetGrades: function 38 -/
mutual
def spec_MeetGrades.l0 : Nat → Int → Int → Int → Int → List Int → List Int → List Bool → Option (Int)
  | 0, _, _, _, _, _, _, _ => none
  | k + 1, x1, x2, x7, x676000, x676001, x676002, x676003 => if x7 < x676000 then ((spec_l1Le.f x676000 x676001 x676002 x676003 x7 x1).bind fun t677 => (if t677 = true then ((spec_l1Le.f x676000 x676001 x676002 x676003 x7 x2).bind fun t678 => (spec_MeetGrades.j1 k x1 x2 x7 t678 x676000 x676001 x676002 x676003)) else (spec_MeetGrades.j1 k x1 x2 x7 false x676000 x676001 x676002 x676003))) else (some (-1))
def spec_MeetGrades.j1 : Nat → Int → Int → Int → Bool → Int → List Int → List Int → List Bool → Option (Int)
  | 0, _, _, _, _, _, _, _, _ => none
  | k + 1, x1, x2, x7, x8, x676000, x676001, x676002, x676003 => spec_MeetGrades.l1 k x1 x2 x7 x8 0 x676000 x676001 x676002 x676003
def spec_MeetGrades.l1 : Nat → Int → Int → Int → Bool → Int → Int → List Int → List Int → List Bool → Option (Int)
  | 0, _, _, _, _, _, _, _, _, _ => none
  | k + 1, x1, x2, x7, x8, x9, x676000, x676001, x676002, x676003 => if x9 < x676000 then (spec_MeetGrades.j3 k x1 x2 x7 x8 x9 x8 x676000 x676001 x676002 x676003) else (spec_MeetGrades.j3 k x1 x2 x7 x8 x9 false x676000 x676001 x676002 x676003)
def spec_MeetGrades.j3 : Nat → Int → Int → Int → Bool → Int → Bool → Int → List Int → List Int → List Bool → Option (Int)
  | 0, _, _, _, _, _, _, _, _, _, _ => none
  | k + 1, x1, x2, x7, x8, x9, x37, x676000, x676001, x676002, x676003 => if x37 = true then ((spec_l1Le.f x676000 x676001 x676002 x676003 x9 x1).bind fun t679 => (if t679 = true then ((spec_l1Le.f x676000 x676001 x676002 x676003 x9 x2).bind fun t680 => (if t680 = true then ((spec_l1Le.f x676000 x676001 x676002 x676003 x9 x7).bind fun t681 => (spec_MeetGrades.l1 k x1 x2 x7 t681 (wrap64 (x9 + 1)) x676000 x676001 x676002 x676003)) else (spec_MeetGrades.l1 k x1 x2 x7 true (wrap64 (x9 + 1)) x676000 x676001 x676002 x676003))) else (spec_MeetGrades.l1 k x1 x2 x7 true (wrap64 (x9 + 1)) x676000 x676001 x676002 x676003))) else (if x8 = true then (some x7) else (spec_MeetGrades.l0 k x1 x2 (wrap64 (x7 + 1)) x676000 x676001 x676002 x676003))
end
def spec_MeetGrades.f (k : Nat) (a0_0 : Int) (l0_1 : List Int) (l0_2 : List Int) (l0_3 : List Bool) (a1 : Int) (a2 : Int) : Option (Int) := (spec_l1Both.f k a0_0 l0_1 l0_2 l0_3 a1 a2).bind fun t676 => (if t676 = true then (spec_MeetGrades.l0 k a1 a2 0 a0_0 l0_1 l0_2 l0_3) else (some (-1)))
set_option maxHeartbeats 8000000 in
set_option maxRecDepth 100000 in
theorem spec_MeetGrades.calls (k : Nat) (a0_0 : Int) (A0_1 : Option Addr) (c0_1 : Nat) (l0_1 : List Int) (A0_2 : Option Addr) (c0_2 : Nat) (l0_2 : List Int) (A0_3 : Option Addr) (c0_3 : Nat) (l0_3 : List Bool) (a1 : Int) (a2 : Int) (r : Int) (w : World) (hr0_1 : Kd.C (Kd.int .i64) w A0_1 l0_1.length l0_1) (hc0_1 : l0_1.length ≤ c0_1) (hr0_2 : Kd.C (Kd.int .i64) w A0_2 l0_2.length l0_2) (hc0_2 : l0_2.length ≤ c0_2) (hr0_3 : Kd.C Kd.bool w A0_3 l0_3.length l0_3) (hc0_3 : l0_3.length ≤ c0_3) (h : spec_MeetGrades.f k a0_0 l0_1 l0_2 l0_3 a1 a2 = some r) :
    Calls Try.prog 38 #[.agg #[.int .i64 a0_0, .slice A0_1 l0_1.length c0_1, .slice A0_2 l0_2.length c0_2, .slice A0_3 l0_3.length c0_3], .int .i64 a1, .int .i64 a2] w fun e w' => e = .returned (.int .i64 r) ∧ Below w.heap.size w w' := by
  have hu28 := Try.underlying28
  have HR0_1 := Aside0.mk hr0_1
  have HC0_1 := Aside0.mk hc0_1
  clear hr0_1 hc0_1
  have HR0_2 := Aside0.mk hr0_2
  have HC0_2 := Aside0.mk hc0_2
  clear hr0_2 hc0_2
  have HR0_3 := Aside0.mk hr0_3
  have HC0_3 := Aside0.mk hc0_3
  clear hr0_3 hc0_3
  have HB := Aside0.mk (Below.refl w.heap.size w)
  have H : ((spec_l1Both.f k a0_0 l0_1 l0_2 l0_3 a1 a2).bind fun t676 => (if t676 = true then (spec_MeetGrades.l0 k a1 a2 0 a0_0 l0_1 l0_2 l0_3) else (some (-1)))) = some r := h
  clear h
  replace H := Option.bind_eq_some_iff.mp H
  obtain ⟨t676, A40, H⟩ := H
  replace H : (if t676 = true then (spec_MeetGrades.l0 k a1 a2 0 a0_0 l0_1 l0_2 l0_3) else (some (-1))) = some r := H
  have A4 := Aside0.mk A40
  clear A40
  have HP5 := Aside0.mk H
  clear H
  go_enter Try.func38, Try.ntmps38
  go_upto_if 14 with (first | ((with_reducible refine gate_dst (N := 3) rfl ?_); refine box_event ?hg (N := 3) ?hd (cs := #[.int .i64 a0_0, .slice A0_1 l0_1.length c0_1, .slice A0_2 l0_2.length c0_2, .slice A0_3 l0_3.length c0_3]) (t := 28) ?hr ?_; (case hd => rfl); (case hg => rfl); (case hr => first | (go_simp; done) | (go_simp; rfl)); intro gb675 hg w6 hbox hb; have n0_ := Aside0.mk (below_step (by repeat (first | (with_reducible first | exact HB.out | apply below_alloc | apply pw_below_drewN | apply below_drew1) | exact HB.out)) hb); have n1_ := Aside0.mk (hbox); have n2_ := Aside0.mk ((by rw [hg]; exact (below_size (by repeat (first | (with_reducible first | exact HB.out | apply below_alloc | apply pw_below_drewN | apply below_drew1) | exact HB.out))) : w.heap.size ≤ gb675)); have n3_ := Aside0.mk ((by rw [hg]; exact (below_size (by repeat (first | (with_reducible first | exact HB.out | apply below_alloc | apply pw_below_drewN | apply below_drew1) | exact HB.out))) : w.heap.size ≤ gb675)); clear HB; have HB := n0_; have BK675 := n1_; have GW675 := n2_; have GE675 := n3_; clear n0_ n1_ n2_ n3_; clear hb hbox hg; have hcz7_0 : w6.cell? ⟨gb675, 0, none⟩ = some (.int .i64 a0_0) := (blk_cell BK675.out 0).trans rfl; have hcz7_1 : w6.cell? ⟨gb675, 1, none⟩ = some (.slice A0_1 l0_1.length c0_1) := (blk_cell BK675.out 1).trans rfl; have hcz7_2 : w6.cell? ⟨gb675, 2, none⟩ = some (.slice A0_2 l0_2.length c0_2) := (blk_cell BK675.out 2).trans rfl; have hcz7_3 : w6.cell? ⟨gb675, 3, none⟩ = some (.slice A0_3 l0_3.length c0_3) := (blk_cell BK675.out 3).trans rfl; have hfz7_0 := blk_frozen BK675.out 0; have hfz7_1 := blk_frozen BK675.out 1; have hfz7_2 := blk_frozen BK675.out 2; have hfz7_3 := blk_frozen BK675.out 3) | ((with_reducible refine gate_callee (f := 60) rfl ?_); refine goesL_ (some 13) rfl rfl Try.func60 (by kernel_rfl) rfl #[.agg #[.int .i64 a0_0, .slice A0_1 l0_1.length c0_1, .slice A0_2 l0_2.length c0_2, .slice A0_3 l0_3.length c0_3], .int .i64 a1, .int .i64 a2] rfl (by (try simp only [List.map_toArray, List.map_cons, List.map_nil]); first | done | rfl | (simp only [List.length_drop, List.length_take]; rfl)) ?_; (with_reducible refine (spec_l1Both.calls k a0_0 _ _ l0_1 _ _ l0_2 _ _ l0_3 a1 a2 t676 _ ?side1 ?side2 ?side3 ?side4 ?side5 ?side6 A4.out).mono ?_); (case side1 => repeat (first | exact (Kd.C_below HR0_1.out HB.out) | (with_reducible refine Kd.C_alloc ?_ _) | (with_reducible refine Kd.C_drewN ?_ _) | (with_reducible refine Kd.C_drew ?_))); (case side2 => exact HC0_1.out); (case side3 => repeat (first | exact (Kd.C_below HR0_2.out HB.out) | (with_reducible refine Kd.C_alloc ?_ _) | (with_reducible refine Kd.C_drewN ?_ _) | (with_reducible refine Kd.C_drew ?_))); (case side4 => exact HC0_2.out); (case side5 => repeat (first | exact (Kd.C_below HR0_3.out HB.out) | (with_reducible refine Kd.C_alloc ?_ _) | (with_reducible refine Kd.C_drewN ?_ _) | (with_reducible refine Kd.C_drew ?_))); (case side6 => exact HC0_3.out); rintro e w8 ⟨rfl, hb⟩; refine ⟨_, rfl, ?_⟩; have n0_ := Aside0.mk (blk_below (g := gb675) (o := .cells #[.int .i64 a0_0, .slice A0_1 l0_1.length c0_1, .slice A0_2 l0_2.length c0_2, .slice A0_3 l0_3.length c0_3] 28 (0, 0)) (by (with_reducible repeat (first | refine blk_drewN ?_ _ | refine blk_drew ?_ | refine blk_alloc ?_ _)); exact BK675.out) hb); have n1_ := Aside0.mk (below_step (by repeat (first | (with_reducible first | exact HB.out | apply below_alloc | apply pw_below_drewN | apply below_drew1 | refine below_set ?_ GE675.out) | exact HB.out)) hb); clear BK675; clear HB; have BK675 := n0_; have HB := n1_; clear n0_ n1_; (try clear hb); (try clear hb2); (try clear hk); (try clear hi)))
  have H := HP5.out
  clear HP5
  by_cases c9 : t676 = true
  · subst c9
    have H1 : (spec_MeetGrades.l0 k a1 a2 0 a0_0 l0_1 l0_2 l0_3) = some r := by rw [if_pos rfl] at H; exact H
    clear H
    have H := H1
    clear H1
    have H' := Aside0.mk H
    clear H
    go_wp2
    go_loopg [7] k (fun kq v7 w' => ∃ (x7_1 : Int), v7 = .int .i64 x7_1 ∧ Aside0 (spec_MeetGrades.l0 kq a1 a2 x7_1 a0_0 l0_1 l0_2 l0_3 = some r) ∧ Aside0 (kq ≤ k) ∧ Aside0 (w'.heap[gb675]? = some (.cells #[.int .i64 a0_0, (.slice A0_1 l0_1.length c0_1), (.slice A0_2 l0_2.length c0_2), (.slice A0_3 l0_3.length c0_3)] 28 (0, 0))) ∧ Aside0 (Below w.heap.size w w'))
    case atStart => exact ⟨(0), (by first | rfl | (simp; done) | (simp [*]; done)), H', ⟨Nat.le_refl _⟩, ⟨by (with_reducible repeat (first | refine blk_drewN ?_ _ | refine blk_drew ?_ | refine blk_alloc ?_ _)); exact BK675.out⟩, ⟨by repeat (first | (with_reducible first | exact HB.out | apply below_alloc | apply pw_below_drewN | apply below_drew1 | refine below_set ?_ GE675.out) | exact HB.out)⟩⟩
    case round =>
      clear H'
      try clear p2
      try clear c3
      try clear c6
      try clear c9
      try clear hcz7_0
      try clear hcz7_1
      try clear hcz7_2
      try clear hcz7_3
      try clear hfz7_0
      try clear hfz7_1
      try clear hfz7_2
      try clear hfz7_3
      obtain ⟨x7_1, rfl, HA, HK1, BK675, HB⟩ := hrel
      cases gk with
      | zero => exact absurd HA.out (by simp [spec_MeetGrades.l0])
      | succ k1 =>
        have H := HA.out
        clear HA
        simp only [spec_MeetGrades.l0] at H
        by_cases c10 : x7_1 < a0_0
        · rw [if_pos c10] at H
          have c10b0 : decide (x7_1 < a0_0) = true := decide_eq_true c10
          clear c10
          (first | rw [c10b0] | (simp only [i64_w, i32_w]; rw [c10b0]) | skip)
          have HC11 := Aside0.mk H
          clear H
          have hcz12_0 : wr.cell? ⟨gb675, 0, none⟩ = some (.int .i64 a0_0) := (blk_cell BK675.out 0).trans rfl
          have hcz12_1 : wr.cell? ⟨gb675, 1, none⟩ = some (.slice A0_1 l0_1.length c0_1) := (blk_cell BK675.out 1).trans rfl
          have hcz12_2 : wr.cell? ⟨gb675, 2, none⟩ = some (.slice A0_2 l0_2.length c0_2) := (blk_cell BK675.out 2).trans rfl
          have hcz12_3 : wr.cell? ⟨gb675, 3, none⟩ = some (.slice A0_3 l0_3.length c0_3) := (blk_cell BK675.out 3).trans rfl
          have hfz12_0 := blk_frozen BK675.out 0
          have hfz12_1 := blk_frozen BK675.out 1
          have hfz12_2 := blk_frozen BK675.out 2
          have hfz12_3 := blk_frozen BK675.out 3
          go_upto_region 6 with (fail)
          go_cut [8] (fun v8 wc => ∃ (kq : Nat) (x8_10 : Bool), v8 = .bool x8_10 ∧ Aside0 (spec_MeetGrades.j1 kq a1 a2 x7_1 x8_10 a0_0 l0_1 l0_2 l0_3 = some r) ∧ Aside0 (kq ≤ k1) ∧ Aside0 (wc.heap[gb675]? = some (.cells #[.int .i64 a0_0, (.slice A0_1 l0_1.length c0_1), (.slice A0_2 l0_2.length c0_2), (.slice A0_3 l0_3.length c0_3)] 28 (0, 0))) ∧ Aside0 (Below w.heap.size w wc))
          case first =>
            have H := HC11.out
            clear HC11
            replace H := Option.bind_eq_some_iff.mp H
            obtain ⟨t677, A130, H⟩ := H
            replace H : (if t677 = true then ((spec_l1Le.f a0_0 l0_1 l0_2 l0_3 x7_1 a2).bind fun t678 => (spec_MeetGrades.j1 k1 a1 a2 x7_1 t678 a0_0 l0_1 l0_2 l0_3)) else (spec_MeetGrades.j1 k1 a1 a2 x7_1 false a0_0 l0_1 l0_2 l0_3)) = some r := H
            have A13 := Aside0.mk A130
            clear A130
            by_cases c14 : t677 = true
            · subst c14
              have H1 : ((spec_l1Le.f a0_0 l0_1 l0_2 l0_3 x7_1 a2).bind fun t678 => (spec_MeetGrades.j1 k1 a1 a2 x7_1 t678 a0_0 l0_1 l0_2 l0_3)) = some r := by rw [if_pos rfl] at H; exact H
              clear H
              have H := H1
              clear H1
              replace H := Option.bind_eq_some_iff.mp H
              obtain ⟨t678, A150, H⟩ := H
              replace H : (spec_MeetGrades.j1 k1 a1 a2 x7_1 t678 a0_0 l0_1 l0_2 l0_3) = some r := H
              have A15 := Aside0.mk A150
              clear A150
              have H' := Aside0.mk H
              clear H
              have hcz16_0 : wr.cell? ⟨gb675, 0, none⟩ = some (.int .i64 a0_0) := (blk_cell BK675.out 0).trans rfl
              have hcz16_1 : wr.cell? ⟨gb675, 1, none⟩ = some (.slice A0_1 l0_1.length c0_1) := (blk_cell BK675.out 1).trans rfl
              have hcz16_2 : wr.cell? ⟨gb675, 2, none⟩ = some (.slice A0_2 l0_2.length c0_2) := (blk_cell BK675.out 2).trans rfl
              have hcz16_3 : wr.cell? ⟨gb675, 3, none⟩ = some (.slice A0_3 l0_3.length c0_3) := (blk_cell BK675.out 3).trans rfl
              have hfz16_0 := blk_frozen BK675.out 0
              have hfz16_1 := blk_frozen BK675.out 1
              have hfz16_2 := blk_frozen BK675.out 2
              have hfz16_3 := blk_frozen BK675.out 3
              go_wp2_with (first | ((with_reducible refine gate_callee (f := 61) rfl ?_); refine goesL_ (some 24) rfl rfl Try.func61 (by kernel_rfl) rfl #[.agg #[.int .i64 a0_0, .slice A0_1 l0_1.length c0_1, .slice A0_2 l0_2.length c0_2, .slice A0_3 l0_3.length c0_3], .int .i64 x7_1, .int .i64 a1] rfl (by (try simp only [List.map_toArray, List.map_cons, List.map_nil]); first | done | rfl | (simp only [List.length_drop, List.length_take]; rfl)) ?_; (with_reducible refine (spec_l1Le.calls a0_0 _ _ l0_1 _ _ l0_2 _ _ l0_3 x7_1 a1 true _ ?side1 ?side2 ?side3 ?side4 ?side5 ?side6 A13.out).mono ?_); (case side1 => repeat (first | exact (Kd.C_below HR0_1.out HB.out) | (with_reducible refine Kd.C_alloc ?_ _) | (with_reducible refine Kd.C_drewN ?_ _) | (with_reducible refine Kd.C_drew ?_))); (case side2 => exact HC0_1.out); (case side3 => repeat (first | exact (Kd.C_below HR0_2.out HB.out) | (with_reducible refine Kd.C_alloc ?_ _) | (with_reducible refine Kd.C_drewN ?_ _) | (with_reducible refine Kd.C_drew ?_))); (case side4 => exact HC0_2.out); (case side5 => repeat (first | exact (Kd.C_below HR0_3.out HB.out) | (with_reducible refine Kd.C_alloc ?_ _) | (with_reducible refine Kd.C_drewN ?_ _) | (with_reducible refine Kd.C_drew ?_))); (case side6 => exact HC0_3.out); rintro e w17 ⟨rfl, hb⟩; refine ⟨_, rfl, ?_⟩; have n0_ := Aside0.mk (blk_below (g := gb675) (o := .cells #[.int .i64 a0_0, .slice A0_1 l0_1.length c0_1, .slice A0_2 l0_2.length c0_2, .slice A0_3 l0_3.length c0_3] 28 (0, 0)) (by (with_reducible repeat (first | refine blk_drewN ?_ _ | refine blk_drew ?_ | refine blk_alloc ?_ _)); exact BK675.out) hb); have n1_ := Aside0.mk (below_step (by repeat (first | (with_reducible first | exact HB.out | apply below_alloc | apply pw_below_drewN | apply below_drew1 | refine below_set ?_ GE675.out) | exact HB.out)) hb); clear BK675; clear HB; have BK675 := n0_; have HB := n1_; clear n0_ n1_; (try clear hb); (try clear hb2); (try clear hk); (try clear hi); have hcz18_0 : w17.cell? ⟨gb675, 0, none⟩ = some (.int .i64 a0_0) := (blk_cell BK675.out 0).trans rfl; have hcz18_1 : w17.cell? ⟨gb675, 1, none⟩ = some (.slice A0_1 l0_1.length c0_1) := (blk_cell BK675.out 1).trans rfl; have hcz18_2 : w17.cell? ⟨gb675, 2, none⟩ = some (.slice A0_2 l0_2.length c0_2) := (blk_cell BK675.out 2).trans rfl; have hcz18_3 : w17.cell? ⟨gb675, 3, none⟩ = some (.slice A0_3 l0_3.length c0_3) := (blk_cell BK675.out 3).trans rfl; have hfz18_0 := blk_frozen BK675.out 0; have hfz18_1 := blk_frozen BK675.out 1; have hfz18_2 := blk_frozen BK675.out 2; have hfz18_3 := blk_frozen BK675.out 3) | (go_at_call 61; (with_reducible refine (spec_l1Le.calls a0_0 _ _ l0_1 _ _ l0_2 _ _ l0_3 x7_1 a2 t678 _ ?side1 ?side2 ?side3 ?side4 ?side5 ?side6 A15.out).mono ?_); (case side1 => repeat (first | exact (Kd.C_below HR0_1.out HB.out) | (with_reducible refine Kd.C_alloc ?_ _) | (with_reducible refine Kd.C_drewN ?_ _) | (with_reducible refine Kd.C_drew ?_))); (case side2 => exact HC0_1.out); (case side3 => repeat (first | exact (Kd.C_below HR0_2.out HB.out) | (with_reducible refine Kd.C_alloc ?_ _) | (with_reducible refine Kd.C_drewN ?_ _) | (with_reducible refine Kd.C_drew ?_))); (case side4 => exact HC0_2.out); (case side5 => repeat (first | exact (Kd.C_below HR0_3.out HB.out) | (with_reducible refine Kd.C_alloc ?_ _) | (with_reducible refine Kd.C_drewN ?_ _) | (with_reducible refine Kd.C_drew ?_))); (case side6 => exact HC0_3.out); rintro e w19 ⟨rfl, hb⟩; have n0_ := Aside0.mk (blk_below (g := gb675) (o := .cells #[.int .i64 a0_0, .slice A0_1 l0_1.length c0_1, .slice A0_2 l0_2.length c0_2, .slice A0_3 l0_3.length c0_3] 28 (0, 0)) (by (with_reducible repeat (first | refine blk_drewN ?_ _ | refine blk_drew ?_ | refine blk_alloc ?_ _)); exact BK675.out) hb); have n1_ := Aside0.mk (below_step (by repeat (first | (with_reducible first | exact HB.out | apply below_alloc | apply pw_below_drewN | apply below_drew1 | refine below_set ?_ GE675.out) | exact HB.out)) hb); clear BK675; clear HB; have BK675 := n0_; have HB := n1_; clear n0_ n1_; (try clear hb); (try clear hb2); (try clear hk); (try clear hi)))
              go_meet
              case rel => exact ⟨_, (t678), (by first | rfl | (simp; done) | (simp [*]; done)), H', ⟨by have := HK1.out; first | omega | exact Nat.le_refl _⟩, ⟨by (with_reducible repeat (first | refine blk_drewN ?_ _ | refine blk_drew ?_ | refine blk_alloc ?_ _)); exact BK675.out⟩, ⟨by repeat (first | (with_reducible first | exact HB.out | apply below_alloc | apply pw_below_drewN | apply below_drew1 | refine below_set ?_ GE675.out) | exact HB.out)⟩⟩
            · replace c14 := Bool.eq_false_iff.mpr c14
              subst c14
              have H1 : (spec_MeetGrades.j1 k1 a1 a2 x7_1 false a0_0 l0_1 l0_2 l0_3) = some r := by rw [if_neg (show ¬ (false = true) by decide)] at H; exact H
              clear H
              have H := H1
              clear H1
              have H' := Aside0.mk H
              clear H
              have hcz20_0 : wr.cell? ⟨gb675, 0, none⟩ = some (.int .i64 a0_0) := (blk_cell BK675.out 0).trans rfl
              have hcz20_1 : wr.cell? ⟨gb675, 1, none⟩ = some (.slice A0_1 l0_1.length c0_1) := (blk_cell BK675.out 1).trans rfl
              have hcz20_2 : wr.cell? ⟨gb675, 2, none⟩ = some (.slice A0_2 l0_2.length c0_2) := (blk_cell BK675.out 2).trans rfl
              have hcz20_3 : wr.cell? ⟨gb675, 3, none⟩ = some (.slice A0_3 l0_3.length c0_3) := (blk_cell BK675.out 3).trans rfl
              have hfz20_0 := blk_frozen BK675.out 0
              have hfz20_1 := blk_frozen BK675.out 1
              have hfz20_2 := blk_frozen BK675.out 2
              have hfz20_3 := blk_frozen BK675.out 3
              go_wp2_with (first | ((with_reducible refine gate_callee (f := 61) rfl ?_); refine goesL_ (some 24) rfl rfl Try.func61 (by kernel_rfl) rfl #[.agg #[.int .i64 a0_0, .slice A0_1 l0_1.length c0_1, .slice A0_2 l0_2.length c0_2, .slice A0_3 l0_3.length c0_3], .int .i64 x7_1, .int .i64 a1] rfl (by (try simp only [List.map_toArray, List.map_cons, List.map_nil]); first | done | rfl | (simp only [List.length_drop, List.length_take]; rfl)) ?_; (with_reducible refine (spec_l1Le.calls a0_0 _ _ l0_1 _ _ l0_2 _ _ l0_3 x7_1 a1 false _ ?side1 ?side2 ?side3 ?side4 ?side5 ?side6 A13.out).mono ?_); (case side1 => repeat (first | exact (Kd.C_below HR0_1.out HB.out) | (with_reducible refine Kd.C_alloc ?_ _) | (with_reducible refine Kd.C_drewN ?_ _) | (with_reducible refine Kd.C_drew ?_))); (case side2 => exact HC0_1.out); (case side3 => repeat (first | exact (Kd.C_below HR0_2.out HB.out) | (with_reducible refine Kd.C_alloc ?_ _) | (with_reducible refine Kd.C_drewN ?_ _) | (with_reducible refine Kd.C_drew ?_))); (case side4 => exact HC0_2.out); (case side5 => repeat (first | exact (Kd.C_below HR0_3.out HB.out) | (with_reducible refine Kd.C_alloc ?_ _) | (with_reducible refine Kd.C_drewN ?_ _) | (with_reducible refine Kd.C_drew ?_))); (case side6 => exact HC0_3.out); rintro e w21 ⟨rfl, hb⟩; refine ⟨_, rfl, ?_⟩; have n0_ := Aside0.mk (blk_below (g := gb675) (o := .cells #[.int .i64 a0_0, .slice A0_1 l0_1.length c0_1, .slice A0_2 l0_2.length c0_2, .slice A0_3 l0_3.length c0_3] 28 (0, 0)) (by (with_reducible repeat (first | refine blk_drewN ?_ _ | refine blk_drew ?_ | refine blk_alloc ?_ _)); exact BK675.out) hb); have n1_ := Aside0.mk (below_step (by repeat (first | (with_reducible first | exact HB.out | apply below_alloc | apply pw_below_drewN | apply below_drew1 | refine below_set ?_ GE675.out) | exact HB.out)) hb); clear BK675; clear HB; have BK675 := n0_; have HB := n1_; clear n0_ n1_; (try clear hb); (try clear hb2); (try clear hk); (try clear hi)))
              go_meet
              case rel => exact ⟨_, (false), (by first | rfl | (simp; done) | (simp [*]; done)), H', ⟨by have := HK1.out; first | omega | exact Nat.le_refl _⟩, ⟨by (with_reducible repeat (first | refine blk_drewN ?_ _ | refine blk_drew ?_ | refine blk_alloc ?_ _)); exact BK675.out⟩, ⟨by repeat (first | (with_reducible first | exact HB.out | apply below_alloc | apply pw_below_drewN | apply below_drew1 | refine below_set ?_ GE675.out) | exact HB.out)⟩⟩
          case rest =>
            clear HC11
            try clear c1
            try clear p2
            try clear c3
            try clear c6
            try clear c9
            try clear c10
            try clear c10b0
            try clear hcz12_0
            try clear hcz12_1
            try clear hcz12_2
            try clear hcz12_3
            try clear hcz7_0
            try clear hcz7_1
            try clear hcz7_2
            try clear hcz7_3
            try clear hfz12_0
            try clear hfz12_1
            try clear hfz12_2
            try clear hfz12_3
            try clear hfz7_0
            try clear hfz7_1
            try clear hfz7_2
            try clear hfz7_3
            try clear p2
            obtain ⟨kq, x8_10, rfl, HA, HJ10, BK675, HB⟩ := hcut
            cases kq with
            | zero => exact absurd HA.out (by simp [spec_MeetGrades.j1])
            | succ kj10 =>
              have H := HA.out
              clear HA
              simp only [spec_MeetGrades.j1] at H
              have H' := Aside0.mk H
              clear H
              go_wp2
              go_loopg [8, 9] kj10 (fun kq v8 v9 w' => ∃ (x8_3 : Bool) (x9_3 : Int), v8 = .bool x8_3 ∧ v9 = .int .i64 x9_3 ∧ Aside0 (spec_MeetGrades.l1 kq a1 a2 x7_1 x8_3 x9_3 a0_0 l0_1 l0_2 l0_3 = some r) ∧ Aside0 (kq ≤ kj10) ∧ Aside0 (w'.heap[gb675]? = some (.cells #[.int .i64 a0_0, (.slice A0_1 l0_1.length c0_1), (.slice A0_2 l0_2.length c0_2), (.slice A0_3 l0_3.length c0_3)] 28 (0, 0))) ∧ Aside0 (Below w.heap.size w w'))
              case atStart => exact ⟨(x8_10), (0), (by first | rfl | (simp; done) | (simp [*]; done)), (by first | rfl | (simp; done) | (simp [*]; done)), H', ⟨Nat.le_refl _⟩, ⟨by (with_reducible repeat (first | refine blk_drewN ?_ _ | refine blk_drew ?_ | refine blk_alloc ?_ _)); exact BK675.out⟩, ⟨by repeat (first | (with_reducible first | exact HB.out | apply below_alloc | apply pw_below_drewN | apply below_drew1 | refine below_set ?_ GE675.out) | exact HB.out)⟩⟩
              case round =>
                clear H'
                try clear c1
                try clear p2
                try clear c3
                try clear c6
                try clear c9
                try clear c10
                try clear c10b0
                try clear hcz12_0
                try clear hcz12_1
                try clear hcz12_2
                try clear hcz12_3
                try clear hcz7_0
                try clear hcz7_1
                try clear hcz7_2
                try clear hcz7_3
                try clear hfz12_0
                try clear hfz12_1
                try clear hfz12_2
                try clear hfz12_3
                try clear hfz7_0
                try clear hfz7_1
                try clear hfz7_2
                try clear hfz7_3
                try clear p2
                obtain ⟨x8_3, x9_3, rfl, rfl, HA, HK3, BK675, HB⟩ := hrel
                cases gk with
                | zero => exact absurd HA.out (by simp [spec_MeetGrades.l1])
                | succ k3 =>
                  have H := HA.out
                  clear HA
                  simp only [spec_MeetGrades.l1] at H
                  have HC22 := Aside0.mk H
                  clear H
                  go_upto_region 8 with (fail)
                  go_cut [37] (fun v37 wc => ∃ (kq : Nat) (x37_21 : Bool), v37 = .bool x37_21 ∧ Aside0 (spec_MeetGrades.j3 kq a1 a2 x7_1 x8_3 x9_3 x37_21 a0_0 l0_1 l0_2 l0_3 = some r) ∧ Aside0 (kq ≤ k3) ∧ Aside0 (wc.heap[gb675]? = some (.cells #[.int .i64 a0_0, (.slice A0_1 l0_1.length c0_1), (.slice A0_2 l0_2.length c0_2), (.slice A0_3 l0_3.length c0_3)] 28 (0, 0))) ∧ Aside0 (Below w.heap.size w wc))
                  case first =>
                    have H := HC22.out
                    clear HC22
                    by_cases c23 : x9_3 < a0_0
                    · rw [if_pos c23] at H
                      have c23b0 : decide (x9_3 < a0_0) = true := decide_eq_true c23
                      clear c23
                      (first | rw [c23b0] | (simp only [i64_w, i32_w]; rw [c23b0]) | skip)
                      have H' := Aside0.mk H
                      clear H
                      have hcz24_0 : wr.cell? ⟨gb675, 0, none⟩ = some (.int .i64 a0_0) := (blk_cell BK675.out 0).trans rfl
                      have hcz24_1 : wr.cell? ⟨gb675, 1, none⟩ = some (.slice A0_1 l0_1.length c0_1) := (blk_cell BK675.out 1).trans rfl
                      have hcz24_2 : wr.cell? ⟨gb675, 2, none⟩ = some (.slice A0_2 l0_2.length c0_2) := (blk_cell BK675.out 2).trans rfl
                      have hcz24_3 : wr.cell? ⟨gb675, 3, none⟩ = some (.slice A0_3 l0_3.length c0_3) := (blk_cell BK675.out 3).trans rfl
                      have hfz24_0 := blk_frozen BK675.out 0
                      have hfz24_1 := blk_frozen BK675.out 1
                      have hfz24_2 := blk_frozen BK675.out 2
                      have hfz24_3 := blk_frozen BK675.out 3
                      go_wp2
                      go_meet
                      case rel => exact ⟨_, (x8_3), (by first | rfl | (simp; done) | (simp [*]; done)), H', ⟨by have := HK1.out; have := HJ10.out; have := HK3.out; first | omega | exact Nat.le_refl _⟩, ⟨by (with_reducible repeat (first | refine blk_drewN ?_ _ | refine blk_drew ?_ | refine blk_alloc ?_ _)); exact BK675.out⟩, ⟨by repeat (first | (with_reducible first | exact HB.out | apply below_alloc | apply pw_below_drewN | apply below_drew1 | refine below_set ?_ GE675.out) | exact HB.out)⟩⟩
                    · rw [if_neg c23] at H
                      have c23b0 : decide (x9_3 < a0_0) = false := decide_eq_false c23
                      clear c23
                      (first | rw [c23b0] | (simp only [i64_w, i32_w]; rw [c23b0]) | skip)
                      have H' := Aside0.mk H
                      clear H
                      have hcz25_0 : wr.cell? ⟨gb675, 0, none⟩ = some (.int .i64 a0_0) := (blk_cell BK675.out 0).trans rfl
                      have hcz25_1 : wr.cell? ⟨gb675, 1, none⟩ = some (.slice A0_1 l0_1.length c0_1) := (blk_cell BK675.out 1).trans rfl
                      have hcz25_2 : wr.cell? ⟨gb675, 2, none⟩ = some (.slice A0_2 l0_2.length c0_2) := (blk_cell BK675.out 2).trans rfl
                      have hcz25_3 : wr.cell? ⟨gb675, 3, none⟩ = some (.slice A0_3 l0_3.length c0_3) := (blk_cell BK675.out 3).trans rfl
                      have hfz25_0 := blk_frozen BK675.out 0
                      have hfz25_1 := blk_frozen BK675.out 1
                      have hfz25_2 := blk_frozen BK675.out 2
                      have hfz25_3 := blk_frozen BK675.out 3
                      go_wp2
                      go_meet
                      case rel => exact ⟨_, (false), (by first | rfl | (simp; done) | (simp [*]; done)), H', ⟨by have := HK1.out; have := HJ10.out; have := HK3.out; first | omega | exact Nat.le_refl _⟩, ⟨by (with_reducible repeat (first | refine blk_drewN ?_ _ | refine blk_drew ?_ | refine blk_alloc ?_ _)); exact BK675.out⟩, ⟨by repeat (first | (with_reducible first | exact HB.out | apply below_alloc | apply pw_below_drewN | apply below_drew1 | refine below_set ?_ GE675.out) | exact HB.out)⟩⟩
                  case rest =>
                    clear HC22
                    try clear c1
                    try clear p2
                    try clear c3
                    try clear c6
                    try clear c9
                    try clear c10
                    try clear c10b0
                    try clear hcz12_0
                    try clear hcz12_1
                    try clear hcz12_2
                    try clear hcz12_3
                    try clear hcz7_0
                    try clear hcz7_1
                    try clear hcz7_2
                    try clear hcz7_3
                    try clear hfz12_0
                    try clear hfz12_1
                    try clear hfz12_2
                    try clear hfz12_3
                    try clear hfz7_0
                    try clear hfz7_1
                    try clear hfz7_2
                    try clear hfz7_3
                    try clear p2
                    obtain ⟨kq, x37_21, rfl, HA, HJ21, BK675, HB⟩ := hcut
                    cases kq with
                    | zero => exact absurd HA.out (by simp [spec_MeetGrades.j3])
                    | succ kj21 =>
                      have H := HA.out
                      clear HA
                      simp only [spec_MeetGrades.j3] at H
                      by_cases c26 : x37_21 = true
                      · subst c26
                        have H1 : ((spec_l1Le.f a0_0 l0_1 l0_2 l0_3 x9_3 a1).bind fun t679 => (if t679 = true then ((spec_l1Le.f a0_0 l0_1 l0_2 l0_3 x9_3 a2).bind fun t680 => (if t680 = true then ((spec_l1Le.f a0_0 l0_1 l0_2 l0_3 x9_3 x7_1).bind fun t681 => (spec_MeetGrades.l1 kj21 a1 a2 x7_1 t681 (wrap64 (x9_3 + 1)) a0_0 l0_1 l0_2 l0_3)) else (spec_MeetGrades.l1 kj21 a1 a2 x7_1 true (wrap64 (x9_3 + 1)) a0_0 l0_1 l0_2 l0_3))) else (spec_MeetGrades.l1 kj21 a1 a2 x7_1 true (wrap64 (x9_3 + 1)) a0_0 l0_1 l0_2 l0_3))) = some r := by rw [if_pos rfl] at H; exact H
                        clear H
                        have H := H1
                        clear H1
                        replace H := Option.bind_eq_some_iff.mp H
                        obtain ⟨t679, A270, H⟩ := H
                        replace H : (if t679 = true then ((spec_l1Le.f a0_0 l0_1 l0_2 l0_3 x9_3 a2).bind fun t680 => (if t680 = true then ((spec_l1Le.f a0_0 l0_1 l0_2 l0_3 x9_3 x7_1).bind fun t681 => (spec_MeetGrades.l1 kj21 a1 a2 x7_1 t681 (wrap64 (x9_3 + 1)) a0_0 l0_1 l0_2 l0_3)) else (spec_MeetGrades.l1 kj21 a1 a2 x7_1 true (wrap64 (x9_3 + 1)) a0_0 l0_1 l0_2 l0_3))) else (spec_MeetGrades.l1 kj21 a1 a2 x7_1 true (wrap64 (x9_3 + 1)) a0_0 l0_1 l0_2 l0_3)) = some r := H
                        have A27 := Aside0.mk A270
                        clear A270
                        by_cases c28 : t679 = true
                        · subst c28
                          have H1 : ((spec_l1Le.f a0_0 l0_1 l0_2 l0_3 x9_3 a2).bind fun t680 => (if t680 = true then ((spec_l1Le.f a0_0 l0_1 l0_2 l0_3 x9_3 x7_1).bind fun t681 => (spec_MeetGrades.l1 kj21 a1 a2 x7_1 t681 (wrap64 (x9_3 + 1)) a0_0 l0_1 l0_2 l0_3)) else (spec_MeetGrades.l1 kj21 a1 a2 x7_1 true (wrap64 (x9_3 + 1)) a0_0 l0_1 l0_2 l0_3))) = some r := by rw [if_pos rfl] at H; exact H
                          clear H
                          have H := H1
                          clear H1
                          replace H := Option.bind_eq_some_iff.mp H
                          obtain ⟨t680, A290, H⟩ := H
                          replace H : (if t680 = true then ((spec_l1Le.f a0_0 l0_1 l0_2 l0_3 x9_3 x7_1).bind fun t681 => (spec_MeetGrades.l1 kj21 a1 a2 x7_1 t681 (wrap64 (x9_3 + 1)) a0_0 l0_1 l0_2 l0_3)) else (spec_MeetGrades.l1 kj21 a1 a2 x7_1 true (wrap64 (x9_3 + 1)) a0_0 l0_1 l0_2 l0_3)) = some r := H
                          have A29 := Aside0.mk A290
                          clear A290
                          by_cases c30 : t680 = true
                          · subst c30
                            have H1 : ((spec_l1Le.f a0_0 l0_1 l0_2 l0_3 x9_3 x7_1).bind fun t681 => (spec_MeetGrades.l1 kj21 a1 a2 x7_1 t681 (wrap64 (x9_3 + 1)) a0_0 l0_1 l0_2 l0_3)) = some r := by rw [if_pos rfl] at H; exact H
                            clear H
                            have H := H1
                            clear H1
                            replace H := Option.bind_eq_some_iff.mp H
                            obtain ⟨t681, A310, H⟩ := H
                            replace H : (spec_MeetGrades.l1 kj21 a1 a2 x7_1 t681 (wrap64 (x9_3 + 1)) a0_0 l0_1 l0_2 l0_3) = some r := H
                            have A31 := Aside0.mk A310
                            clear A310
                            have H' := Aside0.mk H
                            clear H
                            have hcz32_0 : wc.cell? ⟨gb675, 0, none⟩ = some (.int .i64 a0_0) := (blk_cell BK675.out 0).trans rfl
                            have hcz32_1 : wc.cell? ⟨gb675, 1, none⟩ = some (.slice A0_1 l0_1.length c0_1) := (blk_cell BK675.out 1).trans rfl
                            have hcz32_2 : wc.cell? ⟨gb675, 2, none⟩ = some (.slice A0_2 l0_2.length c0_2) := (blk_cell BK675.out 2).trans rfl
                            have hcz32_3 : wc.cell? ⟨gb675, 3, none⟩ = some (.slice A0_3 l0_3.length c0_3) := (blk_cell BK675.out 3).trans rfl
                            have hfz32_0 := blk_frozen BK675.out 0
                            have hfz32_1 := blk_frozen BK675.out 1
                            have hfz32_2 := blk_frozen BK675.out 2
                            have hfz32_3 := blk_frozen BK675.out 3
                            go_wp2_with (first | ((with_reducible refine gate_callee (f := 61) rfl ?_); refine goesL_ (some 43) rfl rfl Try.func61 (by kernel_rfl) rfl #[.agg #[.int .i64 a0_0, .slice A0_1 l0_1.length c0_1, .slice A0_2 l0_2.length c0_2, .slice A0_3 l0_3.length c0_3], .int .i64 x9_3, .int .i64 a1] rfl (by (try simp only [List.map_toArray, List.map_cons, List.map_nil]); first | done | rfl | (simp only [List.length_drop, List.length_take]; rfl)) ?_; (with_reducible refine (spec_l1Le.calls a0_0 _ _ l0_1 _ _ l0_2 _ _ l0_3 x9_3 a1 true _ ?side1 ?side2 ?side3 ?side4 ?side5 ?side6 A27.out).mono ?_); (case side1 => repeat (first | exact (Kd.C_below HR0_1.out HB.out) | (with_reducible refine Kd.C_alloc ?_ _) | (with_reducible refine Kd.C_drewN ?_ _) | (with_reducible refine Kd.C_drew ?_))); (case side2 => exact HC0_1.out); (case side3 => repeat (first | exact (Kd.C_below HR0_2.out HB.out) | (with_reducible refine Kd.C_alloc ?_ _) | (with_reducible refine Kd.C_drewN ?_ _) | (with_reducible refine Kd.C_drew ?_))); (case side4 => exact HC0_2.out); (case side5 => repeat (first | exact (Kd.C_below HR0_3.out HB.out) | (with_reducible refine Kd.C_alloc ?_ _) | (with_reducible refine Kd.C_drewN ?_ _) | (with_reducible refine Kd.C_drew ?_))); (case side6 => exact HC0_3.out); rintro e w33 ⟨rfl, hb⟩; refine ⟨_, rfl, ?_⟩; have n0_ := Aside0.mk (blk_below (g := gb675) (o := .cells #[.int .i64 a0_0, .slice A0_1 l0_1.length c0_1, .slice A0_2 l0_2.length c0_2, .slice A0_3 l0_3.length c0_3] 28 (0, 0)) (by (with_reducible repeat (first | refine blk_drewN ?_ _ | refine blk_drew ?_ | refine blk_alloc ?_ _)); exact BK675.out) hb); have n1_ := Aside0.mk (below_step (by repeat (first | (with_reducible first | exact HB.out | apply below_alloc | apply pw_below_drewN | apply below_drew1 | refine below_set ?_ GE675.out) | exact HB.out)) hb); clear BK675; clear HB; have BK675 := n0_; have HB := n1_; clear n0_ n1_; (try clear hb); (try clear hb2); (try clear hk); (try clear hi); have hcz34_0 : w33.cell? ⟨gb675, 0, none⟩ = some (.int .i64 a0_0) := (blk_cell BK675.out 0).trans rfl; have hcz34_1 : w33.cell? ⟨gb675, 1, none⟩ = some (.slice A0_1 l0_1.length c0_1) := (blk_cell BK675.out 1).trans rfl; have hcz34_2 : w33.cell? ⟨gb675, 2, none⟩ = some (.slice A0_2 l0_2.length c0_2) := (blk_cell BK675.out 2).trans rfl; have hcz34_3 : w33.cell? ⟨gb675, 3, none⟩ = some (.slice A0_3 l0_3.length c0_3) := (blk_cell BK675.out 3).trans rfl; have hfz34_0 := blk_frozen BK675.out 0; have hfz34_1 := blk_frozen BK675.out 1; have hfz34_2 := blk_frozen BK675.out 2; have hfz34_3 := blk_frozen BK675.out 3) | (go_at_call 61; (with_reducible refine (spec_l1Le.calls a0_0 _ _ l0_1 _ _ l0_2 _ _ l0_3 x9_3 a2 true _ ?side1 ?side2 ?side3 ?side4 ?side5 ?side6 A29.out).mono ?_); (case side1 => repeat (first | exact (Kd.C_below HR0_1.out HB.out) | (with_reducible refine Kd.C_alloc ?_ _) | (with_reducible refine Kd.C_drewN ?_ _) | (with_reducible refine Kd.C_drew ?_))); (case side2 => exact HC0_1.out); (case side3 => repeat (first | exact (Kd.C_below HR0_2.out HB.out) | (with_reducible refine Kd.C_alloc ?_ _) | (with_reducible refine Kd.C_drewN ?_ _) | (with_reducible refine Kd.C_drew ?_))); (case side4 => exact HC0_2.out); (case side5 => repeat (first | exact (Kd.C_below HR0_3.out HB.out) | (with_reducible refine Kd.C_alloc ?_ _) | (with_reducible refine Kd.C_drewN ?_ _) | (with_reducible refine Kd.C_drew ?_))); (case side6 => exact HC0_3.out); rintro e w35 ⟨rfl, hb⟩; have n0_ := Aside0.mk (blk_below (g := gb675) (o := .cells #[.int .i64 a0_0, .slice A0_1 l0_1.length c0_1, .slice A0_2 l0_2.length c0_2, .slice A0_3 l0_3.length c0_3] 28 (0, 0)) (by (with_reducible repeat (first | refine blk_drewN ?_ _ | refine blk_drew ?_ | refine blk_alloc ?_ _)); exact BK675.out) hb); have n1_ := Aside0.mk (below_step (by repeat (first | (with_reducible first | exact HB.out | apply below_alloc | apply pw_below_drewN | apply below_drew1 | refine below_set ?_ GE675.out) | exact HB.out)) hb); clear BK675; clear HB; have BK675 := n0_; have HB := n1_; clear n0_ n1_; (try clear hb); (try clear hb2); (try clear hk); (try clear hi); have hcz36_0 : w35.cell? ⟨gb675, 0, none⟩ = some (.int .i64 a0_0) := (blk_cell BK675.out 0).trans rfl; have hcz36_1 : w35.cell? ⟨gb675, 1, none⟩ = some (.slice A0_1 l0_1.length c0_1) := (blk_cell BK675.out 1).trans rfl; have hcz36_2 : w35.cell? ⟨gb675, 2, none⟩ = some (.slice A0_2 l0_2.length c0_2) := (blk_cell BK675.out 2).trans rfl; have hcz36_3 : w35.cell? ⟨gb675, 3, none⟩ = some (.slice A0_3 l0_3.length c0_3) := (blk_cell BK675.out 3).trans rfl; have hfz36_0 := blk_frozen BK675.out 0; have hfz36_1 := blk_frozen BK675.out 1; have hfz36_2 := blk_frozen BK675.out 2; have hfz36_3 := blk_frozen BK675.out 3) | (go_at_call 61; (with_reducible refine (spec_l1Le.calls a0_0 _ _ l0_1 _ _ l0_2 _ _ l0_3 x9_3 x7_1 t681 _ ?side1 ?side2 ?side3 ?side4 ?side5 ?side6 A31.out).mono ?_); (case side1 => repeat (first | exact (Kd.C_below HR0_1.out HB.out) | (with_reducible refine Kd.C_alloc ?_ _) | (with_reducible refine Kd.C_drewN ?_ _) | (with_reducible refine Kd.C_drew ?_))); (case side2 => exact HC0_1.out); (case side3 => repeat (first | exact (Kd.C_below HR0_2.out HB.out) | (with_reducible refine Kd.C_alloc ?_ _) | (with_reducible refine Kd.C_drewN ?_ _) | (with_reducible refine Kd.C_drew ?_))); (case side4 => exact HC0_2.out); (case side5 => repeat (first | exact (Kd.C_below HR0_3.out HB.out) | (with_reducible refine Kd.C_alloc ?_ _) | (with_reducible refine Kd.C_drewN ?_ _) | (with_reducible refine Kd.C_drew ?_))); (case side6 => exact HC0_3.out); rintro e w37 ⟨rfl, hb⟩; have n0_ := Aside0.mk (blk_below (g := gb675) (o := .cells #[.int .i64 a0_0, .slice A0_1 l0_1.length c0_1, .slice A0_2 l0_2.length c0_2, .slice A0_3 l0_3.length c0_3] 28 (0, 0)) (by (with_reducible repeat (first | refine blk_drewN ?_ _ | refine blk_drew ?_ | refine blk_alloc ?_ _)); exact BK675.out) hb); have n1_ := Aside0.mk (below_step (by repeat (first | (with_reducible first | exact HB.out | apply below_alloc | apply pw_below_drewN | apply below_drew1 | refine below_set ?_ GE675.out) | exact HB.out)) hb); clear BK675; clear HB; have BK675 := n0_; have HB := n1_; clear n0_ n1_; (try clear hb); (try clear hb2); (try clear hk); (try clear hi)))
                            go_roundg kj21
                            case measure => have := HK1.out; have := HJ10.out; have := HK3.out; have := HJ21.out; omega
                            case rel => exact ⟨(t681), (wrap64 (x9_3 + 1)), (by first | rfl | (simp; done) | (simp [*]; done)), (by first | rfl | (simp; done) | (simp [*]; done)), H', ⟨by have := HK1.out; have := HJ10.out; have := HK3.out; have := HJ21.out; omega⟩, ⟨by (with_reducible repeat (first | refine blk_drewN ?_ _ | refine blk_drew ?_ | refine blk_alloc ?_ _)); exact BK675.out⟩, ⟨by repeat (first | (with_reducible first | exact HB.out | apply below_alloc | apply pw_below_drewN | apply below_drew1 | refine below_set ?_ GE675.out) | exact HB.out)⟩⟩
                          · replace c30 := Bool.eq_false_iff.mpr c30
                            subst c30
                            have H1 : (spec_MeetGrades.l1 kj21 a1 a2 x7_1 true (wrap64 (x9_3 + 1)) a0_0 l0_1 l0_2 l0_3) = some r := by rw [if_neg (show ¬ (false = true) by decide)] at H; exact H
                            clear H
                            have H := H1
                            clear H1
                            have H' := Aside0.mk H
                            clear H
                            have hcz38_0 : wc.cell? ⟨gb675, 0, none⟩ = some (.int .i64 a0_0) := (blk_cell BK675.out 0).trans rfl
                            have hcz38_1 : wc.cell? ⟨gb675, 1, none⟩ = some (.slice A0_1 l0_1.length c0_1) := (blk_cell BK675.out 1).trans rfl
                            have hcz38_2 : wc.cell? ⟨gb675, 2, none⟩ = some (.slice A0_2 l0_2.length c0_2) := (blk_cell BK675.out 2).trans rfl
                            have hcz38_3 : wc.cell? ⟨gb675, 3, none⟩ = some (.slice A0_3 l0_3.length c0_3) := (blk_cell BK675.out 3).trans rfl
                            have hfz38_0 := blk_frozen BK675.out 0
                            have hfz38_1 := blk_frozen BK675.out 1
                            have hfz38_2 := blk_frozen BK675.out 2
                            have hfz38_3 := blk_frozen BK675.out 3
                            go_wp2_with (first | ((with_reducible refine gate_callee (f := 61) rfl ?_); refine goesL_ (some 43) rfl rfl Try.func61 (by kernel_rfl) rfl #[.agg #[.int .i64 a0_0, .slice A0_1 l0_1.length c0_1, .slice A0_2 l0_2.length c0_2, .slice A0_3 l0_3.length c0_3], .int .i64 x9_3, .int .i64 a1] rfl (by (try simp only [List.map_toArray, List.map_cons, List.map_nil]); first | done | rfl | (simp only [List.length_drop, List.length_take]; rfl)) ?_; (with_reducible refine (spec_l1Le.calls a0_0 _ _ l0_1 _ _ l0_2 _ _ l0_3 x9_3 a1 true _ ?side1 ?side2 ?side3 ?side4 ?side5 ?side6 A27.out).mono ?_); (case side1 => repeat (first | exact (Kd.C_below HR0_1.out HB.out) | (with_reducible refine Kd.C_alloc ?_ _) | (with_reducible refine Kd.C_drewN ?_ _) | (with_reducible refine Kd.C_drew ?_))); (case side2 => exact HC0_1.out); (case side3 => repeat (first | exact (Kd.C_below HR0_2.out HB.out) | (with_reducible refine Kd.C_alloc ?_ _) | (with_reducible refine Kd.C_drewN ?_ _) | (with_reducible refine Kd.C_drew ?_))); (case side4 => exact HC0_2.out); (case side5 => repeat (first | exact (Kd.C_below HR0_3.out HB.out) | (with_reducible refine Kd.C_alloc ?_ _) | (with_reducible refine Kd.C_drewN ?_ _) | (with_reducible refine Kd.C_drew ?_))); (case side6 => exact HC0_3.out); rintro e w39 ⟨rfl, hb⟩; refine ⟨_, rfl, ?_⟩; have n0_ := Aside0.mk (blk_below (g := gb675) (o := .cells #[.int .i64 a0_0, .slice A0_1 l0_1.length c0_1, .slice A0_2 l0_2.length c0_2, .slice A0_3 l0_3.length c0_3] 28 (0, 0)) (by (with_reducible repeat (first | refine blk_drewN ?_ _ | refine blk_drew ?_ | refine blk_alloc ?_ _)); exact BK675.out) hb); have n1_ := Aside0.mk (below_step (by repeat (first | (with_reducible first | exact HB.out | apply below_alloc | apply pw_below_drewN | apply below_drew1 | refine below_set ?_ GE675.out) | exact HB.out)) hb); clear BK675; clear HB; have BK675 := n0_; have HB := n1_; clear n0_ n1_; (try clear hb); (try clear hb2); (try clear hk); (try clear hi); have hcz40_0 : w39.cell? ⟨gb675, 0, none⟩ = some (.int .i64 a0_0) := (blk_cell BK675.out 0).trans rfl; have hcz40_1 : w39.cell? ⟨gb675, 1, none⟩ = some (.slice A0_1 l0_1.length c0_1) := (blk_cell BK675.out 1).trans rfl; have hcz40_2 : w39.cell? ⟨gb675, 2, none⟩ = some (.slice A0_2 l0_2.length c0_2) := (blk_cell BK675.out 2).trans rfl; have hcz40_3 : w39.cell? ⟨gb675, 3, none⟩ = some (.slice A0_3 l0_3.length c0_3) := (blk_cell BK675.out 3).trans rfl; have hfz40_0 := blk_frozen BK675.out 0; have hfz40_1 := blk_frozen BK675.out 1; have hfz40_2 := blk_frozen BK675.out 2; have hfz40_3 := blk_frozen BK675.out 3) | (go_at_call 61; (with_reducible refine (spec_l1Le.calls a0_0 _ _ l0_1 _ _ l0_2 _ _ l0_3 x9_3 a2 false _ ?side1 ?side2 ?side3 ?side4 ?side5 ?side6 A29.out).mono ?_); (case side1 => repeat (first | exact (Kd.C_below HR0_1.out HB.out) | (with_reducible refine Kd.C_alloc ?_ _) | (with_reducible refine Kd.C_drewN ?_ _) | (with_reducible refine Kd.C_drew ?_))); (case side2 => exact HC0_1.out); (case side3 => repeat (first | exact (Kd.C_below HR0_2.out HB.out) | (with_reducible refine Kd.C_alloc ?_ _) | (with_reducible refine Kd.C_drewN ?_ _) | (with_reducible refine Kd.C_drew ?_))); (case side4 => exact HC0_2.out); (case side5 => repeat (first | exact (Kd.C_below HR0_3.out HB.out) | (with_reducible refine Kd.C_alloc ?_ _) | (with_reducible refine Kd.C_drewN ?_ _) | (with_reducible refine Kd.C_drew ?_))); (case side6 => exact HC0_3.out); rintro e w41 ⟨rfl, hb⟩; have n0_ := Aside0.mk (blk_below (g := gb675) (o := .cells #[.int .i64 a0_0, .slice A0_1 l0_1.length c0_1, .slice A0_2 l0_2.length c0_2, .slice A0_3 l0_3.length c0_3] 28 (0, 0)) (by (with_reducible repeat (first | refine blk_drewN ?_ _ | refine blk_drew ?_ | refine blk_alloc ?_ _)); exact BK675.out) hb); have n1_ := Aside0.mk (below_step (by repeat (first | (with_reducible first | exact HB.out | apply below_alloc | apply pw_below_drewN | apply below_drew1 | refine below_set ?_ GE675.out) | exact HB.out)) hb); clear BK675; clear HB; have BK675 := n0_; have HB := n1_; clear n0_ n1_; (try clear hb); (try clear hb2); (try clear hk); (try clear hi)))
                            go_roundg kj21
                            case measure => have := HK1.out; have := HJ10.out; have := HK3.out; have := HJ21.out; omega
                            case rel => exact ⟨(true), (wrap64 (x9_3 + 1)), (by first | rfl | (simp; done) | (simp [*]; done)), (by first | rfl | (simp; done) | (simp [*]; done)), H', ⟨by have := HK1.out; have := HJ10.out; have := HK3.out; have := HJ21.out; omega⟩, ⟨by (with_reducible repeat (first | refine blk_drewN ?_ _ | refine blk_drew ?_ | refine blk_alloc ?_ _)); exact BK675.out⟩, ⟨by repeat (first | (with_reducible first | exact HB.out | apply below_alloc | apply pw_below_drewN | apply below_drew1 | refine below_set ?_ GE675.out) | exact HB.out)⟩⟩
                        · replace c28 := Bool.eq_false_iff.mpr c28
                          subst c28
                          have H1 : (spec_MeetGrades.l1 kj21 a1 a2 x7_1 true (wrap64 (x9_3 + 1)) a0_0 l0_1 l0_2 l0_3) = some r := by rw [if_neg (show ¬ (false = true) by decide)] at H; exact H
                          clear H
                          have H := H1
                          clear H1
                          have H' := Aside0.mk H
                          clear H
                          have hcz42_0 : wc.cell? ⟨gb675, 0, none⟩ = some (.int .i64 a0_0) := (blk_cell BK675.out 0).trans rfl
                          have hcz42_1 : wc.cell? ⟨gb675, 1, none⟩ = some (.slice A0_1 l0_1.length c0_1) := (blk_cell BK675.out 1).trans rfl
                          have hcz42_2 : wc.cell? ⟨gb675, 2, none⟩ = some (.slice A0_2 l0_2.length c0_2) := (blk_cell BK675.out 2).trans rfl
                          have hcz42_3 : wc.cell? ⟨gb675, 3, none⟩ = some (.slice A0_3 l0_3.length c0_3) := (blk_cell BK675.out 3).trans rfl
                          have hfz42_0 := blk_frozen BK675.out 0
                          have hfz42_1 := blk_frozen BK675.out 1
                          have hfz42_2 := blk_frozen BK675.out 2
                          have hfz42_3 := blk_frozen BK675.out 3
                          go_wp2_with (first | ((with_reducible refine gate_callee (f := 61) rfl ?_); refine goesL_ (some 43) rfl rfl Try.func61 (by kernel_rfl) rfl #[.agg #[.int .i64 a0_0, .slice A0_1 l0_1.length c0_1, .slice A0_2 l0_2.length c0_2, .slice A0_3 l0_3.length c0_3], .int .i64 x9_3, .int .i64 a1] rfl (by (try simp only [List.map_toArray, List.map_cons, List.map_nil]); first | done | rfl | (simp only [List.length_drop, List.length_take]; rfl)) ?_; (with_reducible refine (spec_l1Le.calls a0_0 _ _ l0_1 _ _ l0_2 _ _ l0_3 x9_3 a1 false _ ?side1 ?side2 ?side3 ?side4 ?side5 ?side6 A27.out).mono ?_); (case side1 => repeat (first | exact (Kd.C_below HR0_1.out HB.out) | (with_reducible refine Kd.C_alloc ?_ _) | (with_reducible refine Kd.C_drewN ?_ _) | (with_reducible refine Kd.C_drew ?_))); (case side2 => exact HC0_1.out); (case side3 => repeat (first | exact (Kd.C_below HR0_2.out HB.out) | (with_reducible refine Kd.C_alloc ?_ _) | (with_reducible refine Kd.C_drewN ?_ _) | (with_reducible refine Kd.C_drew ?_))); (case side4 => exact HC0_2.out); (case side5 => repeat (first | exact (Kd.C_below HR0_3.out HB.out) | (with_reducible refine Kd.C_alloc ?_ _) | (with_reducible refine Kd.C_drewN ?_ _) | (with_reducible refine Kd.C_drew ?_))); (case side6 => exact HC0_3.out); rintro e w43 ⟨rfl, hb⟩; refine ⟨_, rfl, ?_⟩; have n0_ := Aside0.mk (blk_below (g := gb675) (o := .cells #[.int .i64 a0_0, .slice A0_1 l0_1.length c0_1, .slice A0_2 l0_2.length c0_2, .slice A0_3 l0_3.length c0_3] 28 (0, 0)) (by (with_reducible repeat (first | refine blk_drewN ?_ _ | refine blk_drew ?_ | refine blk_alloc ?_ _)); exact BK675.out) hb); have n1_ := Aside0.mk (below_step (by repeat (first | (with_reducible first | exact HB.out | apply below_alloc | apply pw_below_drewN | apply below_drew1 | refine below_set ?_ GE675.out) | exact HB.out)) hb); clear BK675; clear HB; have BK675 := n0_; have HB := n1_; clear n0_ n1_; (try clear hb); (try clear hb2); (try clear hk); (try clear hi)))
                          go_roundg kj21
                          case measure => have := HK1.out; have := HJ10.out; have := HK3.out; have := HJ21.out; omega
                          case rel => exact ⟨(true), (wrap64 (x9_3 + 1)), (by first | rfl | (simp; done) | (simp [*]; done)), (by first | rfl | (simp; done) | (simp [*]; done)), H', ⟨by have := HK1.out; have := HJ10.out; have := HK3.out; have := HJ21.out; omega⟩, ⟨by (with_reducible repeat (first | refine blk_drewN ?_ _ | refine blk_drew ?_ | refine blk_alloc ?_ _)); exact BK675.out⟩, ⟨by repeat (first | (with_reducible first | exact HB.out | apply below_alloc | apply pw_below_drewN | apply below_drew1 | refine below_set ?_ GE675.out) | exact HB.out)⟩⟩
                      · replace c26 := Bool.eq_false_iff.mpr c26
                        subst c26
                        have H1 : (if x8_3 = true then (some x7_1) else (spec_MeetGrades.l0 kj21 a1 a2 (wrap64 (x7_1 + 1)) a0_0 l0_1 l0_2 l0_3)) = some r := by rw [if_neg (show ¬ (false = true) by decide)] at H; exact H
                        clear H
                        have H := H1
                        clear H1
                        by_cases c44 : x8_3 = true
                        · subst c44
                          have H1 : (some x7_1) = some r := by rw [if_pos rfl] at H; exact H
                          clear H
                          have H := H1
                          clear H1
                          obtain rfl := Option.some.inj H
                          go_wp2
                          go_ret
                          exact ⟨by first | rfl | (simp [errW_none, errW_some] <;> rfl) | (simp [*, errW_none, errW_some] <;> rfl), by repeat (first | (with_reducible first | exact HB.out | apply below_alloc | apply pw_below_drewN | apply below_drew1 | refine below_set ?_ GE675.out) | exact HB.out)⟩
                        · replace c44 := Bool.eq_false_iff.mpr c44
                          subst c44
                          have H1 : (spec_MeetGrades.l0 kj21 a1 a2 (wrap64 (x7_1 + 1)) a0_0 l0_1 l0_2 l0_3) = some r := by rw [if_neg (show ¬ (false = true) by decide)] at H; exact H
                          clear H
                          have H := H1
                          clear H1
                          have H' := Aside0.mk H
                          clear H
                          go_wp2
                          go_roundg kj21
                          case measure => have := HK1.out; have := HJ10.out; have := HK3.out; have := HJ21.out; omega
                          case rel => exact ⟨(wrap64 (x7_1 + 1)), (by first | rfl | (simp; done) | (simp [*]; done)), H', ⟨by have := HK1.out; have := HJ10.out; have := HK3.out; have := HJ21.out; omega⟩, ⟨by (with_reducible repeat (first | refine blk_drewN ?_ _ | refine blk_drew ?_ | refine blk_alloc ?_ _)); exact BK675.out⟩, ⟨by repeat (first | (with_reducible first | exact HB.out | apply below_alloc | apply pw_below_drewN | apply below_drew1 | refine below_set ?_ GE675.out) | exact HB.out)⟩⟩
        · rw [if_neg c10] at H
          have c10b0 : decide (x7_1 < a0_0) = false := decide_eq_false c10
          clear c10
          (first | rw [c10b0] | (simp only [i64_w, i32_w]; rw [c10b0]) | skip)
          obtain rfl := Option.some.inj H
          have hcz45_0 : wr.cell? ⟨gb675, 0, none⟩ = some (.int .i64 a0_0) := (blk_cell BK675.out 0).trans rfl
          have hcz45_1 : wr.cell? ⟨gb675, 1, none⟩ = some (.slice A0_1 l0_1.length c0_1) := (blk_cell BK675.out 1).trans rfl
          have hcz45_2 : wr.cell? ⟨gb675, 2, none⟩ = some (.slice A0_2 l0_2.length c0_2) := (blk_cell BK675.out 2).trans rfl
          have hcz45_3 : wr.cell? ⟨gb675, 3, none⟩ = some (.slice A0_3 l0_3.length c0_3) := (blk_cell BK675.out 3).trans rfl
          have hfz45_0 := blk_frozen BK675.out 0
          have hfz45_1 := blk_frozen BK675.out 1
          have hfz45_2 := blk_frozen BK675.out 2
          have hfz45_3 := blk_frozen BK675.out 3
          go_wp2
          go_ret
          exact ⟨by first | rfl | (simp [errW_none, errW_some] <;> rfl) | (simp [*, errW_none, errW_some] <;> rfl), by repeat (first | (with_reducible first | exact HB.out | apply below_alloc | apply pw_below_drewN | apply below_drew1 | refine below_set ?_ GE675.out) | exact HB.out)⟩
  · replace c9 := Bool.eq_false_iff.mpr c9
    subst c9
    have H1 : (some (-1)) = some r := by rw [if_neg (show ¬ (false = true) by decide)] at H; exact H
    clear H
    have H := H1
    clear H1
    obtain rfl := Option.some.inj H
    go_wp2
    go_ret
    exact ⟨by first | rfl | (simp [errW_none, errW_some] <;> rfl) | (simp [*, errW_none, errW_some] <;> rfl), by repeat (first | (with_reducible first | exact HB.out | apply below_alloc | apply pw_below_drewN | apply below_drew1 | refine below_set ?_ GE675.out) | exact HB.out)⟩

end Go.Proofs.Ythdbijjkcoafiaa.P
