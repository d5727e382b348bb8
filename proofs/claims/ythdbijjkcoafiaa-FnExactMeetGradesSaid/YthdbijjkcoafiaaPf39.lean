-- Printed by this session's own program (wip/tools/mkprint.py) out of the translation. Not trusted: Lean checks it.
import Derived.Test.YthdbijjkcoafiaaP0
import Derived.Test.YthdbijjkcoafiaaPf55
import Derived.Test.YthdbijjkcoafiaaPf62
namespace Go.Proofs.Ythdbijjkcoafiaa.P
open Go.RowKit Go.Proofs.YthdbijjkcoafiaaW.PrintWords Go.Proofs.YthdbijjkcoafiaaW.PrintLast Go.Proofs.YthdbijjkcoafiaaW.PrintMore
attribute [local go_sem] max2_int min2_int max_two min_two max_three min_three max_four min_four   -- for this text's walks alone
set_option linter.unusedVariables false
set_option linter.unusedSimpArgs false

/-! ### impl_MeetGrades: function 39 -/
mutual
def impl_MeetGrades.l0 : Nat → Int → Int → Int → Int → List Int → List Int → List Bool → Option (Int)
  | 0, _, _, _, _, _, _, _ => none
  | k + 1, x1, x2, x7, x683000, x683001, x683002, x683003 => if x7 < x683000 then ((impl_System_below.f x683000 x683001 x683002 x683003 x7 x1).bind fun t684 => (if t684 = true then ((impl_System_below.f x683000 x683001 x683002 x683003 x7 x2).bind fun t685 => (impl_MeetGrades.j1 k x1 x2 x7 (!t685) x683000 x683001 x683002 x683003)) else (impl_MeetGrades.j1 k x1 x2 x7 true x683000 x683001 x683002 x683003))) else (some (-1))
def impl_MeetGrades.j1 : Nat → Int → Int → Int → Bool → Int → List Int → List Int → List Bool → Option (Int)
  | 0, _, _, _, _, _, _, _, _ => none
  | k + 1, x1, x2, x7, x32, x683000, x683001, x683002, x683003 => if x32 = true then (impl_MeetGrades.l0 k x1 x2 (wrap64 (x7 + 1)) x683000 x683001 x683002 x683003) else (impl_MeetGrades.l1 k x1 x2 x7 true 0 x683000 x683001 x683002 x683003)
def impl_MeetGrades.l1 : Nat → Int → Int → Int → Bool → Int → Int → List Int → List Int → List Bool → Option (Int)
  | 0, _, _, _, _, _, _, _, _, _ => none
  | k + 1, x1, x2, x7, x8, x9, x683000, x683001, x683002, x683003 => if x9 < x683000 then (if x8 = true then ((impl_System_below.f x683000 x683001 x683002 x683003 x9 x1).bind fun t686 => (if t686 = true then ((impl_System_below.f x683000 x683001 x683002 x683003 x9 x2).bind fun t687 => (if t687 = true then ((impl_System_below.f x683000 x683001 x683002 x683003 x9 x7).bind fun t688 => (impl_MeetGrades.l1 k x1 x2 x7 t688 (wrap64 (x9 + 1)) x683000 x683001 x683002 x683003)) else (impl_MeetGrades.l1 k x1 x2 x7 true (wrap64 (x9 + 1)) x683000 x683001 x683002 x683003))) else (impl_MeetGrades.l1 k x1 x2 x7 true (wrap64 (x9 + 1)) x683000 x683001 x683002 x683003))) else (impl_MeetGrades.l1 k x1 x2 x7 false (wrap64 (x9 + 1)) x683000 x683001 x683002 x683003)) else (if x8 = true then (some x7) else (impl_MeetGrades.l0 k x1 x2 (wrap64 (x7 + 1)) x683000 x683001 x683002 x683003))
end
def impl_MeetGrades.f (k : Nat) (a0_0 : Int) (l0_1 : List Int) (l0_2 : List Int) (l0_3 : List Bool) (a1 : Int) (a2 : Int) : Option (Int) := (impl_both.f k a0_0 l0_1 l0_2 l0_3 a1 a2).bind fun t683 => (if t683 = true then (impl_MeetGrades.l0 k a1 a2 0 a0_0 l0_1 l0_2 l0_3) else (some (-1)))
set_option maxHeartbeats 8000000 in
set_option maxRecDepth 100000 in
theorem impl_MeetGrades.calls (k : Nat) (a0_0 : Int) (A0_1 : Option Addr) (c0_1 : Nat) (l0_1 : List Int) (A0_2 : Option Addr) (c0_2 : Nat) (l0_2 : List Int) (A0_3 : Option Addr) (c0_3 : Nat) (l0_3 : List Bool) (a1 : Int) (a2 : Int) (r : Int) (w : World) (hr0_1 : Kd.C (Kd.int .i64) w A0_1 l0_1.length l0_1) (hc0_1 : l0_1.length ≤ c0_1) (hr0_2 : Kd.C (Kd.int .i64) w A0_2 l0_2.length l0_2) (hc0_2 : l0_2.length ≤ c0_2) (hr0_3 : Kd.C Kd.bool w A0_3 l0_3.length l0_3) (hc0_3 : l0_3.length ≤ c0_3) (h : impl_MeetGrades.f k a0_0 l0_1 l0_2 l0_3 a1 a2 = some r) :
    Calls Try.prog 39 #[.agg #[.int .i64 a0_0, .slice A0_1 l0_1.length c0_1, .slice A0_2 l0_2.length c0_2, .slice A0_3 l0_3.length c0_3], .int .i64 a1, .int .i64 a2] w fun e w' => e = .returned (.int .i64 r) ∧ Below w.heap.size w w' := by
  have hu28 := Try.underlying28
  have HR0_1 := Aside0.mk hr0_1
  have HC0_1 := Aside0.mk hc0_1
  clear hr0_1 hc0_1
  have HR0_2 := Aside0.mk hr0_2
  have HC0_2 := Aside0.mk hc0_2
  clear hr0_2 hc0_2
  have HR0_3 := Aside0.mk hr0_3
  have HC0_3 := Aside0.mk hc0_3
  clear hr0_3 hc0_3
  have HB := Aside0.mk (Below.refl w.heap.size w)
  have H : ((impl_both.f k a0_0 l0_1 l0_2 l0_3 a1 a2).bind fun t683 => (if t683 = true then (impl_MeetGrades.l0 k a1 a2 0 a0_0 l0_1 l0_2 l0_3) else (some (-1)))) = some r := h
  clear h
  replace H := Option.bind_eq_some_iff.mp H
  obtain ⟨t683, A40, H⟩ := H
  replace H : (if t683 = true then (impl_MeetGrades.l0 k a1 a2 0 a0_0 l0_1 l0_2 l0_3) else (some (-1))) = some r := H
  have A4 := Aside0.mk A40
  clear A40
  have HP5 := Aside0.mk H
  clear H
  go_enter Try.func39, Try.ntmps39
  go_upto_if 14 with (first | ((with_reducible refine gate_dst (N := 3) rfl ?_); refine box_event ?hg (N := 3) ?hd (cs := #[.int .i64 a0_0, .slice A0_1 l0_1.length c0_1, .slice A0_2 l0_2.length c0_2, .slice A0_3 l0_3.length c0_3]) (t := 28) ?hr ?_; (case hd => rfl); (case hg => rfl); (case hr => first | (go_simp; done) | (go_simp; rfl)); intro gb682 hg w6 hbox hb; have n0_ := Aside0.mk (below_step (by repeat (first | (with_reducible first | exact HB.out | apply below_alloc | apply pw_below_drewN | apply below_drew1) | exact HB.out)) hb); have n1_ := Aside0.mk (hbox); have n2_ := Aside0.mk ((by rw [hg]; exact (below_size (by repeat (first | (with_reducible first | exact HB.out | apply below_alloc | apply pw_below_drewN | apply below_drew1) | exact HB.out))) : w.heap.size ≤ gb682)); have n3_ := Aside0.mk ((by rw [hg]; exact (below_size (by repeat (first | (with_reducible first | exact HB.out | apply below_alloc | apply pw_below_drewN | apply below_drew1) | exact HB.out))) : w.heap.size ≤ gb682)); clear HB; have HB := n0_; have BK682 := n1_; have GW682 := n2_; have GE682 := n3_; clear n0_ n1_ n2_ n3_; clear hb hbox hg; have hcz7_0 : w6.cell? ⟨gb682, 0, none⟩ = some (.int .i64 a0_0) := (blk_cell BK682.out 0).trans rfl; have hcz7_1 : w6.cell? ⟨gb682, 1, none⟩ = some (.slice A0_1 l0_1.length c0_1) := (blk_cell BK682.out 1).trans rfl; have hcz7_2 : w6.cell? ⟨gb682, 2, none⟩ = some (.slice A0_2 l0_2.length c0_2) := (blk_cell BK682.out 2).trans rfl; have hcz7_3 : w6.cell? ⟨gb682, 3, none⟩ = some (.slice A0_3 l0_3.length c0_3) := (blk_cell BK682.out 3).trans rfl; have hfz7_0 := blk_frozen BK682.out 0; have hfz7_1 := blk_frozen BK682.out 1; have hfz7_2 := blk_frozen BK682.out 2; have hfz7_3 := blk_frozen BK682.out 3) | ((with_reducible refine gate_callee (f := 62) rfl ?_); refine goesL_ (some 13) rfl rfl Try.func62 (by kernel_rfl) rfl #[.agg #[.int .i64 a0_0, .slice A0_1 l0_1.length c0_1, .slice A0_2 l0_2.length c0_2, .slice A0_3 l0_3.length c0_3], .int .i64 a1, .int .i64 a2] rfl (by (try simp only [List.map_toArray, List.map_cons, List.map_nil]); first | done | rfl | (simp only [List.length_drop, List.length_take]; rfl)) ?_; (with_reducible refine (impl_both.calls k a0_0 _ _ l0_1 _ _ l0_2 _ _ l0_3 a1 a2 t683 _ ?side1 ?side2 ?side3 ?side4 ?side5 ?side6 A4.out).mono ?_); (case side1 => repeat (first | exact (Kd.C_below HR0_1.out HB.out) | (with_reducible refine Kd.C_alloc ?_ _) | (with_reducible refine Kd.C_drewN ?_ _) | (with_reducible refine Kd.C_drew ?_))); (case side2 => exact HC0_1.out); (case side3 => repeat (first | exact (Kd.C_below HR0_2.out HB.out) | (with_reducible refine Kd.C_alloc ?_ _) | (with_reducible refine Kd.C_drewN ?_ _) | (with_reducible refine Kd.C_drew ?_))); (case side4 => exact HC0_2.out); (case side5 => repeat (first | exact (Kd.C_below HR0_3.out HB.out) | (with_reducible refine Kd.C_alloc ?_ _) | (with_reducible refine Kd.C_drewN ?_ _) | (with_reducible refine Kd.C_drew ?_))); (case side6 => exact HC0_3.out); rintro e w8 ⟨rfl, hb⟩; refine ⟨_, rfl, ?_⟩; have n0_ := Aside0.mk (blk_below (g := gb682) (o := .cells #[.int .i64 a0_0, .slice A0_1 l0_1.length c0_1, .slice A0_2 l0_2.length c0_2, .slice A0_3 l0_3.length c0_3] 28 (0, 0)) (by (with_reducible repeat (first | refine blk_drewN ?_ _ | refine blk_drew ?_ | refine blk_alloc ?_ _)); exact BK682.out) hb); have n1_ := Aside0.mk (below_step (by repeat (first | (with_reducible first | exact HB.out | apply below_alloc | apply pw_below_drewN | apply below_drew1 | refine below_set ?_ GE682.out) | exact HB.out)) hb); clear BK682; clear HB; have BK682 := n0_; have HB := n1_; clear n0_ n1_; (try clear hb); (try clear hb2); (try clear hk); (try clear hi)))
  have H := HP5.out
  clear HP5
  by_cases c9 : t683 = true
  · subst c9
    have H1 : (impl_MeetGrades.l0 k a1 a2 0 a0_0 l0_1 l0_2 l0_3) = some r := by rw [if_pos rfl] at H; exact H
    clear H
    have H := H1
    clear H1
    have H' := Aside0.mk H
    clear H
    go_wp2
    go_loopg [7] k (fun kq v7 w' => ∃ (x7_1 : Int), v7 = .int .i64 x7_1 ∧ Aside0 (impl_MeetGrades.l0 kq a1 a2 x7_1 a0_0 l0_1 l0_2 l0_3 = some r) ∧ Aside0 (kq ≤ k) ∧ Aside0 (w'.heap[gb682]? = some (.cells #[.int .i64 a0_0, (.slice A0_1 l0_1.length c0_1), (.slice A0_2 l0_2.length c0_2), (.slice A0_3 l0_3.length c0_3)] 28 (0, 0))) ∧ Aside0 (Below w.heap.size w w'))
    case atStart => exact ⟨(0), (by first | rfl | (simp; done) | (simp [*]; done)), H', ⟨Nat.le_refl _⟩, ⟨by (with_reducible repeat (first | refine blk_drewN ?_ _ | refine blk_drew ?_ | refine blk_alloc ?_ _)); exact BK682.out⟩, ⟨by repeat (first | (with_reducible first | exact HB.out | apply below_alloc | apply pw_below_drewN | apply below_drew1 | refine below_set ?_ GE682.out) | exact HB.out)⟩⟩
    case round =>
      clear H'
      try clear p2
      try clear c3
      try clear c6
      try clear c9
      try clear hcz7_0
      try clear hcz7_1
      try clear hcz7_2
      try clear hcz7_3
      try clear hfz7_0
      try clear hfz7_1
      try clear hfz7_2
      try clear hfz7_3
      obtain ⟨x7_1, rfl, HA, HK1, BK682, HB⟩ := hrel
      cases gk with
      | zero => exact absurd HA.out (by simp [impl_MeetGrades.l0])
      | succ k1 =>
        have H := HA.out
        clear HA
        simp only [impl_MeetGrades.l0] at H
        by_cases c10 : x7_1 < a0_0
        · rw [if_pos c10] at H
          have c10b0 : decide (x7_1 < a0_0) = true := decide_eq_true c10
          clear c10
          (first | rw [c10b0] | (simp only [i64_w, i32_w]; rw [c10b0]) | skip)
          have HC11 := Aside0.mk H
          clear H
          have hcz12_0 : wr.cell? ⟨gb682, 0, none⟩ = some (.int .i64 a0_0) := (blk_cell BK682.out 0).trans rfl
          have hcz12_1 : wr.cell? ⟨gb682, 1, none⟩ = some (.slice A0_1 l0_1.length c0_1) := (blk_cell BK682.out 1).trans rfl
          have hcz12_2 : wr.cell? ⟨gb682, 2, none⟩ = some (.slice A0_2 l0_2.length c0_2) := (blk_cell BK682.out 2).trans rfl
          have hcz12_3 : wr.cell? ⟨gb682, 3, none⟩ = some (.slice A0_3 l0_3.length c0_3) := (blk_cell BK682.out 3).trans rfl
          have hfz12_0 := blk_frozen BK682.out 0
          have hfz12_1 := blk_frozen BK682.out 1
          have hfz12_2 := blk_frozen BK682.out 2
          have hfz12_3 := blk_frozen BK682.out 3
          go_upto_region 6 with (fail)
          go_cut [32] (fun v32 wc => ∃ (kq : Nat) (x32_10 : Bool), v32 = .bool x32_10 ∧ Aside0 (impl_MeetGrades.j1 kq a1 a2 x7_1 x32_10 a0_0 l0_1 l0_2 l0_3 = some r) ∧ Aside0 (kq ≤ k1) ∧ Aside0 (wc.heap[gb682]? = some (.cells #[.int .i64 a0_0, (.slice A0_1 l0_1.length c0_1), (.slice A0_2 l0_2.length c0_2), (.slice A0_3 l0_3.length c0_3)] 28 (0, 0))) ∧ Aside0 (Below w.heap.size w wc))
          case first =>
            have H := HC11.out
            clear HC11
            replace H := Option.bind_eq_some_iff.mp H
            obtain ⟨t684, A130, H⟩ := H
            replace H : (if t684 = true then ((impl_System_below.f a0_0 l0_1 l0_2 l0_3 x7_1 a2).bind fun t685 => (impl_MeetGrades.j1 k1 a1 a2 x7_1 (!t685) a0_0 l0_1 l0_2 l0_3)) else (impl_MeetGrades.j1 k1 a1 a2 x7_1 true a0_0 l0_1 l0_2 l0_3)) = some r := H
            have A13 := Aside0.mk A130
            clear A130
            by_cases c14 : t684 = true
            · subst c14
              have H1 : ((impl_System_below.f a0_0 l0_1 l0_2 l0_3 x7_1 a2).bind fun t685 => (impl_MeetGrades.j1 k1 a1 a2 x7_1 (!t685) a0_0 l0_1 l0_2 l0_3)) = some r := by rw [if_pos rfl] at H; exact H
              clear H
              have H := H1
              clear H1
              replace H := Option.bind_eq_some_iff.mp H
              obtain ⟨t685, A150, H⟩ := H
              replace H : (impl_MeetGrades.j1 k1 a1 a2 x7_1 (!t685) a0_0 l0_1 l0_2 l0_3) = some r := H
              have A15 := Aside0.mk A150
              clear A150
              have H' := Aside0.mk H
              clear H
              have hcz16_0 : wr.cell? ⟨gb682, 0, none⟩ = some (.int .i64 a0_0) := (blk_cell BK682.out 0).trans rfl
              have hcz16_1 : wr.cell? ⟨gb682, 1, none⟩ = some (.slice A0_1 l0_1.length c0_1) := (blk_cell BK682.out 1).trans rfl
              have hcz16_2 : wr.cell? ⟨gb682, 2, none⟩ = some (.slice A0_2 l0_2.length c0_2) := (blk_cell BK682.out 2).trans rfl
              have hcz16_3 : wr.cell? ⟨gb682, 3, none⟩ = some (.slice A0_3 l0_3.length c0_3) := (blk_cell BK682.out 3).trans rfl
              have hfz16_0 := blk_frozen BK682.out 0
              have hfz16_1 := blk_frozen BK682.out 1
              have hfz16_2 := blk_frozen BK682.out 2
              have hfz16_3 := blk_frozen BK682.out 3
              go_wp2_with (first | ((with_reducible refine gate_callee (f := 55) rfl ?_); refine goesL_ (some 24) rfl rfl Try.func55 (by kernel_rfl) rfl #[.agg #[.int .i64 a0_0, .slice A0_1 l0_1.length c0_1, .slice A0_2 l0_2.length c0_2, .slice A0_3 l0_3.length c0_3], .int .i64 x7_1, .int .i64 a1] rfl (by (try simp only [List.map_toArray, List.map_cons, List.map_nil]); first | done | rfl | (simp only [List.length_drop, List.length_take]; rfl)) ?_; (with_reducible refine (impl_System_below.calls a0_0 _ _ l0_1 _ _ l0_2 _ _ l0_3 x7_1 a1 true _ ?side1 ?side2 ?side3 ?side4 ?side5 ?side6 A13.out).mono ?_); (case side1 => repeat (first | exact (Kd.C_below HR0_1.out HB.out) | (with_reducible refine Kd.C_alloc ?_ _) | (with_reducible refine Kd.C_drewN ?_ _) | (with_reducible refine Kd.C_drew ?_))); (case side2 => exact HC0_1.out); (case side3 => repeat (first | exact (Kd.C_below HR0_2.out HB.out) | (with_reducible refine Kd.C_alloc ?_ _) | (with_reducible refine Kd.C_drewN ?_ _) | (with_reducible refine Kd.C_drew ?_))); (case side4 => exact HC0_2.out); (case side5 => repeat (first | exact (Kd.C_below HR0_3.out HB.out) | (with_reducible refine Kd.C_alloc ?_ _) | (with_reducible refine Kd.C_drewN ?_ _) | (with_reducible refine Kd.C_drew ?_))); (case side6 => exact HC0_3.out); rintro e w17 ⟨rfl, hb⟩; refine ⟨_, rfl, ?_⟩; have n0_ := Aside0.mk (blk_below (g := gb682) (o := .cells #[.int .i64 a0_0, .slice A0_1 l0_1.length c0_1, .slice A0_2 l0_2.length c0_2, .slice A0_3 l0_3.length c0_3] 28 (0, 0)) (by (with_reducible repeat (first | refine blk_drewN ?_ _ | refine blk_drew ?_ | refine blk_alloc ?_ _)); exact BK682.out) hb); have n1_ := Aside0.mk (below_step (by repeat (first | (with_reducible first | exact HB.out | apply below_alloc | apply pw_below_drewN | apply below_drew1 | refine below_set ?_ GE682.out) | exact HB.out)) hb); clear BK682; clear HB; have BK682 := n0_; have HB := n1_; clear n0_ n1_; (try clear hb); (try clear hb2); (try clear hk); (try clear hi); have hcz18_0 : w17.cell? ⟨gb682, 0, none⟩ = some (.int .i64 a0_0) := (blk_cell BK682.out 0).trans rfl; have hcz18_1 : w17.cell? ⟨gb682, 1, none⟩ = some (.slice A0_1 l0_1.length c0_1) := (blk_cell BK682.out 1).trans rfl; have hcz18_2 : w17.cell? ⟨gb682, 2, none⟩ = some (.slice A0_2 l0_2.length c0_2) := (blk_cell BK682.out 2).trans rfl; have hcz18_3 : w17.cell? ⟨gb682, 3, none⟩ = some (.slice A0_3 l0_3.length c0_3) := (blk_cell BK682.out 3).trans rfl; have hfz18_0 := blk_frozen BK682.out 0; have hfz18_1 := blk_frozen BK682.out 1; have hfz18_2 := blk_frozen BK682.out 2; have hfz18_3 := blk_frozen BK682.out 3) | (go_at_call 55; (with_reducible refine (impl_System_below.calls a0_0 _ _ l0_1 _ _ l0_2 _ _ l0_3 x7_1 a2 t685 _ ?side1 ?side2 ?side3 ?side4 ?side5 ?side6 A15.out).mono ?_); (case side1 => repeat (first | exact (Kd.C_below HR0_1.out HB.out) | (with_reducible refine Kd.C_alloc ?_ _) | (with_reducible refine Kd.C_drewN ?_ _) | (with_reducible refine Kd.C_drew ?_))); (case side2 => exact HC0_1.out); (case side3 => repeat (first | exact (Kd.C_below HR0_2.out HB.out) | (with_reducible refine Kd.C_alloc ?_ _) | (with_reducible refine Kd.C_drewN ?_ _) | (with_reducible refine Kd.C_drew ?_))); (case side4 => exact HC0_2.out); (case side5 => repeat (first | exact (Kd.C_below HR0_3.out HB.out) | (with_reducible refine Kd.C_alloc ?_ _) | (with_reducible refine Kd.C_drewN ?_ _) | (with_reducible refine Kd.C_drew ?_))); (case side6 => exact HC0_3.out); rintro e w19 ⟨rfl, hb⟩; have n0_ := Aside0.mk (blk_below (g := gb682) (o := .cells #[.int .i64 a0_0, .slice A0_1 l0_1.length c0_1, .slice A0_2 l0_2.length c0_2, .slice A0_3 l0_3.length c0_3] 28 (0, 0)) (by (with_reducible repeat (first | refine blk_drewN ?_ _ | refine blk_drew ?_ | refine blk_alloc ?_ _)); exact BK682.out) hb); have n1_ := Aside0.mk (below_step (by repeat (first | (with_reducible first | exact HB.out | apply below_alloc | apply pw_below_drewN | apply below_drew1 | refine below_set ?_ GE682.out) | exact HB.out)) hb); clear BK682; clear HB; have BK682 := n0_; have HB := n1_; clear n0_ n1_; (try clear hb); (try clear hb2); (try clear hk); (try clear hi)))
              go_meet
              case rel => exact ⟨_, (!t685), (by first | rfl | (simp; done) | (simp [*]; done)), H', ⟨by have := HK1.out; first | omega | exact Nat.le_refl _⟩, ⟨by (with_reducible repeat (first | refine blk_drewN ?_ _ | refine blk_drew ?_ | refine blk_alloc ?_ _)); exact BK682.out⟩, ⟨by repeat (first | (with_reducible first | exact HB.out | apply below_alloc | apply pw_below_drewN | apply below_drew1 | refine below_set ?_ GE682.out) | exact HB.out)⟩⟩
            · replace c14 := Bool.eq_false_iff.mpr c14
              subst c14
              have H1 : (impl_MeetGrades.j1 k1 a1 a2 x7_1 true a0_0 l0_1 l0_2 l0_3) = some r := by rw [if_neg (show ¬ (false = true) by decide)] at H; exact H
              clear H
              have H := H1
              clear H1
              have H' := Aside0.mk H
              clear H
              have hcz20_0 : wr.cell? ⟨gb682, 0, none⟩ = some (.int .i64 a0_0) := (blk_cell BK682.out 0).trans rfl
              have hcz20_1 : wr.cell? ⟨gb682, 1, none⟩ = some (.slice A0_1 l0_1.length c0_1) := (blk_cell BK682.out 1).trans rfl
              have hcz20_2 : wr.cell? ⟨gb682, 2, none⟩ = some (.slice A0_2 l0_2.length c0_2) := (blk_cell BK682.out 2).trans rfl
              have hcz20_3 : wr.cell? ⟨gb682, 3, none⟩ = some (.slice A0_3 l0_3.length c0_3) := (blk_cell BK682.out 3).trans rfl
              have hfz20_0 := blk_frozen BK682.out 0
              have hfz20_1 := blk_frozen BK682.out 1
              have hfz20_2 := blk_frozen BK682.out 2
              have hfz20_3 := blk_frozen BK682.out 3
              go_wp2_with (first | ((with_reducible refine gate_callee (f := 55) rfl ?_); refine goesL_ (some 24) rfl rfl Try.func55 (by kernel_rfl) rfl #[.agg #[.int .i64 a0_0, .slice A0_1 l0_1.length c0_1, .slice A0_2 l0_2.length c0_2, .slice A0_3 l0_3.length c0_3], .int .i64 x7_1, .int .i64 a1] rfl (by (try simp only [List.map_toArray, List.map_cons, List.map_nil]); first | done | rfl | (simp only [List.length_drop, List.length_take]; rfl)) ?_; (with_reducible refine (impl_System_below.calls a0_0 _ _ l0_1 _ _ l0_2 _ _ l0_3 x7_1 a1 false _ ?side1 ?side2 ?side3 ?side4 ?side5 ?side6 A13.out).mono ?_); (case side1 => repeat (first | exact (Kd.C_below HR0_1.out HB.out) | (with_reducible refine Kd.C_alloc ?_ _) | (with_reducible refine Kd.C_drewN ?_ _) | (with_reducible refine Kd.C_drew ?_))); (case side2 => exact HC0_1.out); (case side3 => repeat (first | exact (Kd.C_below HR0_2.out HB.out) | (with_reducible refine Kd.C_alloc ?_ _) | (with_reducible refine Kd.C_drewN ?_ _) | (with_reducible refine Kd.C_drew ?_))); (case side4 => exact HC0_2.out); (case side5 => repeat (first | exact (Kd.C_below HR0_3.out HB.out) | (with_reducible refine Kd.C_alloc ?_ _) | (with_reducible refine Kd.C_drewN ?_ _) | (with_reducible refine Kd.C_drew ?_))); (case side6 => exact HC0_3.out); rintro e w21 ⟨rfl, hb⟩; refine ⟨_, rfl, ?_⟩; have n0_ := Aside0.mk (blk_below (g := gb682) (o := .cells #[.int .i64 a0_0, .slice A0_1 l0_1.length c0_1, .slice A0_2 l0_2.length c0_2, .slice A0_3 l0_3.length c0_3] 28 (0, 0)) (by (with_reducible repeat (first | refine blk_drewN ?_ _ | refine blk_drew ?_ | refine blk_alloc ?_ _)); exact BK682.out) hb); have n1_ := Aside0.mk (below_step (by repeat (first | (with_reducible first | exact HB.out | apply below_alloc | apply pw_below_drewN | apply below_drew1 | refine below_set ?_ GE682.out) | exact HB.out)) hb); clear BK682; clear HB; have BK682 := n0_; have HB := n1_; clear n0_ n1_; (try clear hb); (try clear hb2); (try clear hk); (try clear hi)))
              go_meet
              case rel => exact ⟨_, (true), (by first | rfl | (simp; done) | (simp [*]; done)), H', ⟨by have := HK1.out; first | omega | exact Nat.le_refl _⟩, ⟨by (with_reducible repeat (first | refine blk_drewN ?_ _ | refine blk_drew ?_ | refine blk_alloc ?_ _)); exact BK682.out⟩, ⟨by repeat (first | (with_reducible first | exact HB.out | apply below_alloc | apply pw_below_drewN | apply below_drew1 | refine below_set ?_ GE682.out) | exact HB.out)⟩⟩
          case rest =>
            clear HC11
            try clear c1
            try clear p2
            try clear c3
            try clear c6
            try clear c9
            try clear c10
            try clear c10b0
            try clear hcz12_0
            try clear hcz12_1
            try clear hcz12_2
            try clear hcz12_3
            try clear hcz7_0
            try clear hcz7_1
            try clear hcz7_2
            try clear hcz7_3
            try clear hfz12_0
            try clear hfz12_1
            try clear hfz12_2
            try clear hfz12_3
            try clear hfz7_0
            try clear hfz7_1
            try clear hfz7_2
            try clear hfz7_3
            try clear p2
            obtain ⟨kq, x32_10, rfl, HA, HJ10, BK682, HB⟩ := hcut
            cases kq with
            | zero => exact absurd HA.out (by simp [impl_MeetGrades.j1])
            | succ kj10 =>
              have H := HA.out
              clear HA
              simp only [impl_MeetGrades.j1] at H
              by_cases c22 : x32_10 = true
              · subst c22
                have H1 : (impl_MeetGrades.l0 kj10 a1 a2 (wrap64 (x7_1 + 1)) a0_0 l0_1 l0_2 l0_3) = some r := by rw [if_pos rfl] at H; exact H
                clear H
                have H := H1
                clear H1
                have H' := Aside0.mk H
                clear H
                go_wp2
                go_roundg kj10
                case measure => have := HK1.out; have := HJ10.out; omega
                case rel => exact ⟨(wrap64 (x7_1 + 1)), (by first | rfl | (simp; done) | (simp [*]; done)), H', ⟨by have := HK1.out; have := HJ10.out; omega⟩, ⟨by (with_reducible repeat (first | refine blk_drewN ?_ _ | refine blk_drew ?_ | refine blk_alloc ?_ _)); exact BK682.out⟩, ⟨by repeat (first | (with_reducible first | exact HB.out | apply below_alloc | apply pw_below_drewN | apply below_drew1 | refine below_set ?_ GE682.out) | exact HB.out)⟩⟩
              · replace c22 := Bool.eq_false_iff.mpr c22
                subst c22
                have H1 : (impl_MeetGrades.l1 kj10 a1 a2 x7_1 true 0 a0_0 l0_1 l0_2 l0_3) = some r := by rw [if_neg (show ¬ (false = true) by decide)] at H; exact H
                clear H
                have H := H1
                clear H1
                have H' := Aside0.mk H
                clear H
                go_wp2
                go_loopg [8, 9] kj10 (fun kq v8 v9 w' => ∃ (x8_3 : Bool) (x9_3 : Int), v8 = .bool x8_3 ∧ v9 = .int .i64 x9_3 ∧ Aside0 (impl_MeetGrades.l1 kq a1 a2 x7_1 x8_3 x9_3 a0_0 l0_1 l0_2 l0_3 = some r) ∧ Aside0 (kq ≤ kj10) ∧ Aside0 (w'.heap[gb682]? = some (.cells #[.int .i64 a0_0, (.slice A0_1 l0_1.length c0_1), (.slice A0_2 l0_2.length c0_2), (.slice A0_3 l0_3.length c0_3)] 28 (0, 0))) ∧ Aside0 (Below w.heap.size w w'))
                case atStart => exact ⟨(true), (0), (by first | rfl | (simp; done) | (simp [*]; done)), (by first | rfl | (simp; done) | (simp [*]; done)), H', ⟨Nat.le_refl _⟩, ⟨by (with_reducible repeat (first | refine blk_drewN ?_ _ | refine blk_drew ?_ | refine blk_alloc ?_ _)); exact BK682.out⟩, ⟨by repeat (first | (with_reducible first | exact HB.out | apply below_alloc | apply pw_below_drewN | apply below_drew1 | refine below_set ?_ GE682.out) | exact HB.out)⟩⟩
                case round =>
                  clear H'
                  try clear c1
                  try clear c2
                  try clear p2
                  try clear c3
                  try clear c6
                  try clear c9
                  try clear c10
                  try clear c10b0
                  try clear c22
                  try clear hcz12_0
                  try clear hcz12_1
                  try clear hcz12_2
                  try clear hcz12_3
                  try clear hcz7_0
                  try clear hcz7_1
                  try clear hcz7_2
                  try clear hcz7_3
                  try clear hfz12_0
                  try clear hfz12_1
                  try clear hfz12_2
                  try clear hfz12_3
                  try clear hfz7_0
                  try clear hfz7_1
                  try clear hfz7_2
                  try clear hfz7_3
                  try clear p2
                  obtain ⟨x8_3, x9_3, rfl, rfl, HA, HK3, BK682, HB⟩ := hrel
                  cases gk with
                  | zero => exact absurd HA.out (by simp [impl_MeetGrades.l1])
                  | succ k3 =>
                    have H := HA.out
                    clear HA
                    simp only [impl_MeetGrades.l1] at H
                    by_cases c23 : x9_3 < a0_0
                    · rw [if_pos c23] at H
                      have c23b0 : decide (x9_3 < a0_0) = true := decide_eq_true c23
                      clear c23
                      by_cases c24 : x8_3 = true
                      · subst c24
                        have H1 : ((impl_System_below.f a0_0 l0_1 l0_2 l0_3 x9_3 a1).bind fun t686 => (if t686 = true then ((impl_System_below.f a0_0 l0_1 l0_2 l0_3 x9_3 a2).bind fun t687 => (if t687 = true then ((impl_System_below.f a0_0 l0_1 l0_2 l0_3 x9_3 x7_1).bind fun t688 => (impl_MeetGrades.l1 k3 a1 a2 x7_1 t688 (wrap64 (x9_3 + 1)) a0_0 l0_1 l0_2 l0_3)) else (impl_MeetGrades.l1 k3 a1 a2 x7_1 true (wrap64 (x9_3 + 1)) a0_0 l0_1 l0_2 l0_3))) else (impl_MeetGrades.l1 k3 a1 a2 x7_1 true (wrap64 (x9_3 + 1)) a0_0 l0_1 l0_2 l0_3))) = some r := by rw [if_pos rfl] at H; exact H
                        clear H
                        have H := H1
                        clear H1
                        replace H := Option.bind_eq_some_iff.mp H
                        obtain ⟨t686, A250, H⟩ := H
                        replace H : (if t686 = true then ((impl_System_below.f a0_0 l0_1 l0_2 l0_3 x9_3 a2).bind fun t687 => (if t687 = true then ((impl_System_below.f a0_0 l0_1 l0_2 l0_3 x9_3 x7_1).bind fun t688 => (impl_MeetGrades.l1 k3 a1 a2 x7_1 t688 (wrap64 (x9_3 + 1)) a0_0 l0_1 l0_2 l0_3)) else (impl_MeetGrades.l1 k3 a1 a2 x7_1 true (wrap64 (x9_3 + 1)) a0_0 l0_1 l0_2 l0_3))) else (impl_MeetGrades.l1 k3 a1 a2 x7_1 true (wrap64 (x9_3 + 1)) a0_0 l0_1 l0_2 l0_3)) = some r := H
                        have A25 := Aside0.mk A250
                        clear A250
                        by_cases c26 : t686 = true
                        · subst c26
                          have H1 : ((impl_System_below.f a0_0 l0_1 l0_2 l0_3 x9_3 a2).bind fun t687 => (if t687 = true then ((impl_System_below.f a0_0 l0_1 l0_2 l0_3 x9_3 x7_1).bind fun t688 => (impl_MeetGrades.l1 k3 a1 a2 x7_1 t688 (wrap64 (x9_3 + 1)) a0_0 l0_1 l0_2 l0_3)) else (impl_MeetGrades.l1 k3 a1 a2 x7_1 true (wrap64 (x9_3 + 1)) a0_0 l0_1 l0_2 l0_3))) = some r := by rw [if_pos rfl] at H; exact H
                          clear H
                          have H := H1
                          clear H1
                          replace H := Option.bind_eq_some_iff.mp H
                          obtain ⟨t687, A270, H⟩ := H
                          replace H : (if t687 = true then ((impl_System_below.f a0_0 l0_1 l0_2 l0_3 x9_3 x7_1).bind fun t688 => (impl_MeetGrades.l1 k3 a1 a2 x7_1 t688 (wrap64 (x9_3 + 1)) a0_0 l0_1 l0_2 l0_3)) else (impl_MeetGrades.l1 k3 a1 a2 x7_1 true (wrap64 (x9_3 + 1)) a0_0 l0_1 l0_2 l0_3)) = some r := H
                          have A27 := Aside0.mk A270
                          clear A270
                          by_cases c28 : t687 = true
                          · subst c28
                            have H1 : ((impl_System_below.f a0_0 l0_1 l0_2 l0_3 x9_3 x7_1).bind fun t688 => (impl_MeetGrades.l1 k3 a1 a2 x7_1 t688 (wrap64 (x9_3 + 1)) a0_0 l0_1 l0_2 l0_3)) = some r := by rw [if_pos rfl] at H; exact H
                            clear H
                            have H := H1
                            clear H1
                            replace H := Option.bind_eq_some_iff.mp H
                            obtain ⟨t688, A290, H⟩ := H
                            replace H : (impl_MeetGrades.l1 k3 a1 a2 x7_1 t688 (wrap64 (x9_3 + 1)) a0_0 l0_1 l0_2 l0_3) = some r := H
                            have A29 := Aside0.mk A290
                            clear A290
                            have H' := Aside0.mk H
                            clear H
                            have hcz30_0 : wr.cell? ⟨gb682, 0, none⟩ = some (.int .i64 a0_0) := (blk_cell BK682.out 0).trans rfl
                            have hcz30_1 : wr.cell? ⟨gb682, 1, none⟩ = some (.slice A0_1 l0_1.length c0_1) := (blk_cell BK682.out 1).trans rfl
                            have hcz30_2 : wr.cell? ⟨gb682, 2, none⟩ = some (.slice A0_2 l0_2.length c0_2) := (blk_cell BK682.out 2).trans rfl
                            have hcz30_3 : wr.cell? ⟨gb682, 3, none⟩ = some (.slice A0_3 l0_3.length c0_3) := (blk_cell BK682.out 3).trans rfl
                            have hfz30_0 := blk_frozen BK682.out 0
                            have hfz30_1 := blk_frozen BK682.out 1
                            have hfz30_2 := blk_frozen BK682.out 2
                            have hfz30_3 := blk_frozen BK682.out 3
                            go_wp2_with (first | (go_at_call 55; (with_reducible refine (impl_System_below.calls a0_0 _ _ l0_1 _ _ l0_2 _ _ l0_3 x9_3 a1 true _ ?side1 ?side2 ?side3 ?side4 ?side5 ?side6 A25.out).mono ?_); (case side1 => repeat (first | exact (Kd.C_below HR0_1.out HB.out) | (with_reducible refine Kd.C_alloc ?_ _) | (with_reducible refine Kd.C_drewN ?_ _) | (with_reducible refine Kd.C_drew ?_))); (case side2 => exact HC0_1.out); (case side3 => repeat (first | exact (Kd.C_below HR0_2.out HB.out) | (with_reducible refine Kd.C_alloc ?_ _) | (with_reducible refine Kd.C_drewN ?_ _) | (with_reducible refine Kd.C_drew ?_))); (case side4 => exact HC0_2.out); (case side5 => repeat (first | exact (Kd.C_below HR0_3.out HB.out) | (with_reducible refine Kd.C_alloc ?_ _) | (with_reducible refine Kd.C_drewN ?_ _) | (with_reducible refine Kd.C_drew ?_))); (case side6 => exact HC0_3.out); rintro e w31 ⟨rfl, hb⟩; have n0_ := Aside0.mk (blk_below (g := gb682) (o := .cells #[.int .i64 a0_0, .slice A0_1 l0_1.length c0_1, .slice A0_2 l0_2.length c0_2, .slice A0_3 l0_3.length c0_3] 28 (0, 0)) (by (with_reducible repeat (first | refine blk_drewN ?_ _ | refine blk_drew ?_ | refine blk_alloc ?_ _)); exact BK682.out) hb); have n1_ := Aside0.mk (below_step (by repeat (first | (with_reducible first | exact HB.out | apply below_alloc | apply pw_below_drewN | apply below_drew1 | refine below_set ?_ GE682.out) | exact HB.out)) hb); clear BK682; clear HB; have BK682 := n0_; have HB := n1_; clear n0_ n1_; (try clear hb); (try clear hb2); (try clear hk); (try clear hi); have hcz32_0 : w31.cell? ⟨gb682, 0, none⟩ = some (.int .i64 a0_0) := (blk_cell BK682.out 0).trans rfl; have hcz32_1 : w31.cell? ⟨gb682, 1, none⟩ = some (.slice A0_1 l0_1.length c0_1) := (blk_cell BK682.out 1).trans rfl; have hcz32_2 : w31.cell? ⟨gb682, 2, none⟩ = some (.slice A0_2 l0_2.length c0_2) := (blk_cell BK682.out 2).trans rfl; have hcz32_3 : w31.cell? ⟨gb682, 3, none⟩ = some (.slice A0_3 l0_3.length c0_3) := (blk_cell BK682.out 3).trans rfl; have hfz32_0 := blk_frozen BK682.out 0; have hfz32_1 := blk_frozen BK682.out 1; have hfz32_2 := blk_frozen BK682.out 2; have hfz32_3 := blk_frozen BK682.out 3) | (go_at_call 55; (with_reducible refine (impl_System_below.calls a0_0 _ _ l0_1 _ _ l0_2 _ _ l0_3 x9_3 a2 true _ ?side1 ?side2 ?side3 ?side4 ?side5 ?side6 A27.out).mono ?_); (case side1 => repeat (first | exact (Kd.C_below HR0_1.out HB.out) | (with_reducible refine Kd.C_alloc ?_ _) | (with_reducible refine Kd.C_drewN ?_ _) | (with_reducible refine Kd.C_drew ?_))); (case side2 => exact HC0_1.out); (case side3 => repeat (first | exact (Kd.C_below HR0_2.out HB.out) | (with_reducible refine Kd.C_alloc ?_ _) | (with_reducible refine Kd.C_drewN ?_ _) | (with_reducible refine Kd.C_drew ?_))); (case side4 => exact HC0_2.out); (case side5 => repeat (first | exact (Kd.C_below HR0_3.out HB.out) | (with_reducible refine Kd.C_alloc ?_ _) | (with_reducible refine Kd.C_drewN ?_ _) | (with_reducible refine Kd.C_drew ?_))); (case side6 => exact HC0_3.out); rintro e w33 ⟨rfl, hb⟩; have n0_ := Aside0.mk (blk_below (g := gb682) (o := .cells #[.int .i64 a0_0, .slice A0_1 l0_1.length c0_1, .slice A0_2 l0_2.length c0_2, .slice A0_3 l0_3.length c0_3] 28 (0, 0)) (by (with_reducible repeat (first | refine blk_drewN ?_ _ | refine blk_drew ?_ | refine blk_alloc ?_ _)); exact BK682.out) hb); have n1_ := Aside0.mk (below_step (by repeat (first | (with_reducible first | exact HB.out | apply below_alloc | apply pw_below_drewN | apply below_drew1 | refine below_set ?_ GE682.out) | exact HB.out)) hb); clear BK682; clear HB; have BK682 := n0_; have HB := n1_; clear n0_ n1_; (try clear hb); (try clear hb2); (try clear hk); (try clear hi); have hcz34_0 : w33.cell? ⟨gb682, 0, none⟩ = some (.int .i64 a0_0) := (blk_cell BK682.out 0).trans rfl; have hcz34_1 : w33.cell? ⟨gb682, 1, none⟩ = some (.slice A0_1 l0_1.length c0_1) := (blk_cell BK682.out 1).trans rfl; have hcz34_2 : w33.cell? ⟨gb682, 2, none⟩ = some (.slice A0_2 l0_2.length c0_2) := (blk_cell BK682.out 2).trans rfl; have hcz34_3 : w33.cell? ⟨gb682, 3, none⟩ = some (.slice A0_3 l0_3.length c0_3) := (blk_cell BK682.out 3).trans rfl; have hfz34_0 := blk_frozen BK682.out 0; have hfz34_1 := blk_frozen BK682.out 1; have hfz34_2 := blk_frozen BK682.out 2; have hfz34_3 := blk_frozen BK682.out 3) | (go_at_call 55; (with_reducible refine (impl_System_below.calls a0_0 _ _ l0_1 _ _ l0_2 _ _ l0_3 x9_3 x7_1 t688 _ ?side1 ?side2 ?side3 ?side4 ?side5 ?side6 A29.out).mono ?_); (case side1 => repeat (first | exact (Kd.C_below HR0_1.out HB.out) | (with_reducible refine Kd.C_alloc ?_ _) | (with_reducible refine Kd.C_drewN ?_ _) | (with_reducible refine Kd.C_drew ?_))); (case side2 => exact HC0_1.out); (case side3 => repeat (first | exact (Kd.C_below HR0_2.out HB.out) | (with_reducible refine Kd.C_alloc ?_ _) | (with_reducible refine Kd.C_drewN ?_ _) | (with_reducible refine Kd.C_drew ?_))); (case side4 => exact HC0_2.out); (case side5 => repeat (first | exact (Kd.C_below HR0_3.out HB.out) | (with_reducible refine Kd.C_alloc ?_ _) | (with_reducible refine Kd.C_drewN ?_ _) | (with_reducible refine Kd.C_drew ?_))); (case side6 => exact HC0_3.out); rintro e w35 ⟨rfl, hb⟩; have n0_ := Aside0.mk (blk_below (g := gb682) (o := .cells #[.int .i64 a0_0, .slice A0_1 l0_1.length c0_1, .slice A0_2 l0_2.length c0_2, .slice A0_3 l0_3.length c0_3] 28 (0, 0)) (by (with_reducible repeat (first | refine blk_drewN ?_ _ | refine blk_drew ?_ | refine blk_alloc ?_ _)); exact BK682.out) hb); have n1_ := Aside0.mk (below_step (by repeat (first | (with_reducible first | exact HB.out | apply below_alloc | apply pw_below_drewN | apply below_drew1 | refine below_set ?_ GE682.out) | exact HB.out)) hb); clear BK682; clear HB; have BK682 := n0_; have HB := n1_; clear n0_ n1_; (try clear hb); (try clear hb2); (try clear hk); (try clear hi)))
                            go_roundg k3
                            case measure => have := HK1.out; have := HJ10.out; have := HK3.out; omega
                            case rel => exact ⟨(t688), (wrap64 (x9_3 + 1)), (by first | rfl | (simp; done) | (simp [*]; done)), (by first | rfl | (simp; done) | (simp [*]; done)), H', ⟨by have := HK1.out; have := HJ10.out; have := HK3.out; omega⟩, ⟨by (with_reducible repeat (first | refine blk_drewN ?_ _ | refine blk_drew ?_ | refine blk_alloc ?_ _)); exact BK682.out⟩, ⟨by repeat (first | (with_reducible first | exact HB.out | apply below_alloc | apply pw_below_drewN | apply below_drew1 | refine below_set ?_ GE682.out) | exact HB.out)⟩⟩
                          · replace c28 := Bool.eq_false_iff.mpr c28
                            subst c28
                            have H1 : (impl_MeetGrades.l1 k3 a1 a2 x7_1 true (wrap64 (x9_3 + 1)) a0_0 l0_1 l0_2 l0_3) = some r := by rw [if_neg (show ¬ (false = true) by decide)] at H; exact H
                            clear H
                            have H := H1
                            clear H1
                            have H' := Aside0.mk H
                            clear H
                            have hcz36_0 : wr.cell? ⟨gb682, 0, none⟩ = some (.int .i64 a0_0) := (blk_cell BK682.out 0).trans rfl
                            have hcz36_1 : wr.cell? ⟨gb682, 1, none⟩ = some (.slice A0_1 l0_1.length c0_1) := (blk_cell BK682.out 1).trans rfl
                            have hcz36_2 : wr.cell? ⟨gb682, 2, none⟩ = some (.slice A0_2 l0_2.length c0_2) := (blk_cell BK682.out 2).trans rfl
                            have hcz36_3 : wr.cell? ⟨gb682, 3, none⟩ = some (.slice A0_3 l0_3.length c0_3) := (blk_cell BK682.out 3).trans rfl
                            have hfz36_0 := blk_frozen BK682.out 0
                            have hfz36_1 := blk_frozen BK682.out 1
                            have hfz36_2 := blk_frozen BK682.out 2
                            have hfz36_3 := blk_frozen BK682.out 3
                            go_wp2_with (first | (go_at_call 55; (with_reducible refine (impl_System_below.calls a0_0 _ _ l0_1 _ _ l0_2 _ _ l0_3 x9_3 a1 true _ ?side1 ?side2 ?side3 ?side4 ?side5 ?side6 A25.out).mono ?_); (case side1 => repeat (first | exact (Kd.C_below HR0_1.out HB.out) | (with_reducible refine Kd.C_alloc ?_ _) | (with_reducible refine Kd.C_drewN ?_ _) | (with_reducible refine Kd.C_drew ?_))); (case side2 => exact HC0_1.out); (case side3 => repeat (first | exact (Kd.C_below HR0_2.out HB.out) | (with_reducible refine Kd.C_alloc ?_ _) | (with_reducible refine Kd.C_drewN ?_ _) | (with_reducible refine Kd.C_drew ?_))); (case side4 => exact HC0_2.out); (case side5 => repeat (first | exact (Kd.C_below HR0_3.out HB.out) | (with_reducible refine Kd.C_alloc ?_ _) | (with_reducible refine Kd.C_drewN ?_ _) | (with_reducible refine Kd.C_drew ?_))); (case side6 => exact HC0_3.out); rintro e w37 ⟨rfl, hb⟩; have n0_ := Aside0.mk (blk_below (g := gb682) (o := .cells #[.int .i64 a0_0, .slice A0_1 l0_1.length c0_1, .slice A0_2 l0_2.length c0_2, .slice A0_3 l0_3.length c0_3] 28 (0, 0)) (by (with_reducible repeat (first | refine blk_drewN ?_ _ | refine blk_drew ?_ | refine blk_alloc ?_ _)); exact BK682.out) hb); have n1_ := Aside0.mk (below_step (by repeat (first | (with_reducible first | exact HB.out | apply below_alloc | apply pw_below_drewN | apply below_drew1 | refine below_set ?_ GE682.out) | exact HB.out)) hb); clear BK682; clear HB; have BK682 := n0_; have HB := n1_; clear n0_ n1_; (try clear hb); (try clear hb2); (try clear hk); (try clear hi); have hcz38_0 : w37.cell? ⟨gb682, 0, none⟩ = some (.int .i64 a0_0) := (blk_cell BK682.out 0).trans rfl; have hcz38_1 : w37.cell? ⟨gb682, 1, none⟩ = some (.slice A0_1 l0_1.length c0_1) := (blk_cell BK682.out 1).trans rfl; have hcz38_2 : w37.cell? ⟨gb682, 2, none⟩ = some (.slice A0_2 l0_2.length c0_2) := (blk_cell BK682.out 2).trans rfl; have hcz38_3 : w37.cell? ⟨gb682, 3, none⟩ = some (.slice A0_3 l0_3.length c0_3) := (blk_cell BK682.out 3).trans rfl; have hfz38_0 := blk_frozen BK682.out 0; have hfz38_1 := blk_frozen BK682.out 1; have hfz38_2 := blk_frozen BK682.out 2; have hfz38_3 := blk_frozen BK682.out 3) | (go_at_call 55; (with_reducible refine (impl_System_below.calls a0_0 _ _ l0_1 _ _ l0_2 _ _ l0_3 x9_3 a2 false _ ?side1 ?side2 ?side3 ?side4 ?side5 ?side6 A27.out).mono ?_); (case side1 => repeat (first | exact (Kd.C_below HR0_1.out HB.out) | (with_reducible refine Kd.C_alloc ?_ _) | (with_reducible refine Kd.C_drewN ?_ _) | (with_reducible refine Kd.C_drew ?_))); (case side2 => exact HC0_1.out); (case side3 => repeat (first | exact (Kd.C_below HR0_2.out HB.out) | (with_reducible refine Kd.C_alloc ?_ _) | (with_reducible refine Kd.C_drewN ?_ _) | (with_reducible refine Kd.C_drew ?_))); (case side4 => exact HC0_2.out); (case side5 => repeat (first | exact (Kd.C_below HR0_3.out HB.out) | (with_reducible refine Kd.C_alloc ?_ _) | (with_reducible refine Kd.C_drewN ?_ _) | (with_reducible refine Kd.C_drew ?_))); (case side6 => exact HC0_3.out); rintro e w39 ⟨rfl, hb⟩; have n0_ := Aside0.mk (blk_below (g := gb682) (o := .cells #[.int .i64 a0_0, .slice A0_1 l0_1.length c0_1, .slice A0_2 l0_2.length c0_2, .slice A0_3 l0_3.length c0_3] 28 (0, 0)) (by (with_reducible repeat (first | refine blk_drewN ?_ _ | refine blk_drew ?_ | refine blk_alloc ?_ _)); exact BK682.out) hb); have n1_ := Aside0.mk (below_step (by repeat (first | (with_reducible first | exact HB.out | apply below_alloc | apply pw_below_drewN | apply below_drew1 | refine below_set ?_ GE682.out) | exact HB.out)) hb); clear BK682; clear HB; have BK682 := n0_; have HB := n1_; clear n0_ n1_; (try clear hb); (try clear hb2); (try clear hk); (try clear hi)))
                            go_roundg k3
                            case measure => have := HK1.out; have := HJ10.out; have := HK3.out; omega
                            case rel => exact ⟨(true), (wrap64 (x9_3 + 1)), (by first | rfl | (simp; done) | (simp [*]; done)), (by first | rfl | (simp; done) | (simp [*]; done)), H', ⟨by have := HK1.out; have := HJ10.out; have := HK3.out; omega⟩, ⟨by (with_reducible repeat (first | refine blk_drewN ?_ _ | refine blk_drew ?_ | refine blk_alloc ?_ _)); exact BK682.out⟩, ⟨by repeat (first | (with_reducible first | exact HB.out | apply below_alloc | apply pw_below_drewN | apply below_drew1 | refine below_set ?_ GE682.out) | exact HB.out)⟩⟩
                        · replace c26 := Bool.eq_false_iff.mpr c26
                          subst c26
                          have H1 : (impl_MeetGrades.l1 k3 a1 a2 x7_1 true (wrap64 (x9_3 + 1)) a0_0 l0_1 l0_2 l0_3) = some r := by rw [if_neg (show ¬ (false = true) by decide)] at H; exact H
                          clear H
                          have H := H1
                          clear H1
                          have H' := Aside0.mk H
                          clear H
                          have hcz40_0 : wr.cell? ⟨gb682, 0, none⟩ = some (.int .i64 a0_0) := (blk_cell BK682.out 0).trans rfl
                          have hcz40_1 : wr.cell? ⟨gb682, 1, none⟩ = some (.slice A0_1 l0_1.length c0_1) := (blk_cell BK682.out 1).trans rfl
                          have hcz40_2 : wr.cell? ⟨gb682, 2, none⟩ = some (.slice A0_2 l0_2.length c0_2) := (blk_cell BK682.out 2).trans rfl
                          have hcz40_3 : wr.cell? ⟨gb682, 3, none⟩ = some (.slice A0_3 l0_3.length c0_3) := (blk_cell BK682.out 3).trans rfl
                          have hfz40_0 := blk_frozen BK682.out 0
                          have hfz40_1 := blk_frozen BK682.out 1
                          have hfz40_2 := blk_frozen BK682.out 2
                          have hfz40_3 := blk_frozen BK682.out 3
                          go_wp2_with (first | (go_at_call 55; (with_reducible refine (impl_System_below.calls a0_0 _ _ l0_1 _ _ l0_2 _ _ l0_3 x9_3 a1 false _ ?side1 ?side2 ?side3 ?side4 ?side5 ?side6 A25.out).mono ?_); (case side1 => repeat (first | exact (Kd.C_below HR0_1.out HB.out) | (with_reducible refine Kd.C_alloc ?_ _) | (with_reducible refine Kd.C_drewN ?_ _) | (with_reducible refine Kd.C_drew ?_))); (case side2 => exact HC0_1.out); (case side3 => repeat (first | exact (Kd.C_below HR0_2.out HB.out) | (with_reducible refine Kd.C_alloc ?_ _) | (with_reducible refine Kd.C_drewN ?_ _) | (with_reducible refine Kd.C_drew ?_))); (case side4 => exact HC0_2.out); (case side5 => repeat (first | exact (Kd.C_below HR0_3.out HB.out) | (with_reducible refine Kd.C_alloc ?_ _) | (with_reducible refine Kd.C_drewN ?_ _) | (with_reducible refine Kd.C_drew ?_))); (case side6 => exact HC0_3.out); rintro e w41 ⟨rfl, hb⟩; have n0_ := Aside0.mk (blk_below (g := gb682) (o := .cells #[.int .i64 a0_0, .slice A0_1 l0_1.length c0_1, .slice A0_2 l0_2.length c0_2, .slice A0_3 l0_3.length c0_3] 28 (0, 0)) (by (with_reducible repeat (first | refine blk_drewN ?_ _ | refine blk_drew ?_ | refine blk_alloc ?_ _)); exact BK682.out) hb); have n1_ := Aside0.mk (below_step (by repeat (first | (with_reducible first | exact HB.out | apply below_alloc | apply pw_below_drewN | apply below_drew1 | refine below_set ?_ GE682.out) | exact HB.out)) hb); clear BK682; clear HB; have BK682 := n0_; have HB := n1_; clear n0_ n1_; (try clear hb); (try clear hb2); (try clear hk); (try clear hi)))
                          go_roundg k3
                          case measure => have := HK1.out; have := HJ10.out; have := HK3.out; omega
                          case rel => exact ⟨(true), (wrap64 (x9_3 + 1)), (by first | rfl | (simp; done) | (simp [*]; done)), (by first | rfl | (simp; done) | (simp [*]; done)), H', ⟨by have := HK1.out; have := HJ10.out; have := HK3.out; omega⟩, ⟨by (with_reducible repeat (first | refine blk_drewN ?_ _ | refine blk_drew ?_ | refine blk_alloc ?_ _)); exact BK682.out⟩, ⟨by repeat (first | (with_reducible first | exact HB.out | apply below_alloc | apply pw_below_drewN | apply below_drew1 | refine below_set ?_ GE682.out) | exact HB.out)⟩⟩
                      · replace c24 := Bool.eq_false_iff.mpr c24
                        subst c24
                        have H1 : (impl_MeetGrades.l1 k3 a1 a2 x7_1 false (wrap64 (x9_3 + 1)) a0_0 l0_1 l0_2 l0_3) = some r := by rw [if_neg (show ¬ (false = true) by decide)] at H; exact H
                        clear H
                        have H := H1
                        clear H1
                        have H' := Aside0.mk H
                        clear H
                        have hcz42_0 : wr.cell? ⟨gb682, 0, none⟩ = some (.int .i64 a0_0) := (blk_cell BK682.out 0).trans rfl
                        have hcz42_1 : wr.cell? ⟨gb682, 1, none⟩ = some (.slice A0_1 l0_1.length c0_1) := (blk_cell BK682.out 1).trans rfl
                        have hcz42_2 : wr.cell? ⟨gb682, 2, none⟩ = some (.slice A0_2 l0_2.length c0_2) := (blk_cell BK682.out 2).trans rfl
                        have hcz42_3 : wr.cell? ⟨gb682, 3, none⟩ = some (.slice A0_3 l0_3.length c0_3) := (blk_cell BK682.out 3).trans rfl
                        have hfz42_0 := blk_frozen BK682.out 0
                        have hfz42_1 := blk_frozen BK682.out 1
                        have hfz42_2 := blk_frozen BK682.out 2
                        have hfz42_3 := blk_frozen BK682.out 3
                        go_wp2
                        go_roundg k3
                        case measure => have := HK1.out; have := HJ10.out; have := HK3.out; omega
                        case rel => exact ⟨(false), (wrap64 (x9_3 + 1)), (by first | rfl | (simp; done) | (simp [*]; done)), (by first | rfl | (simp; done) | (simp [*]; done)), H', ⟨by have := HK1.out; have := HJ10.out; have := HK3.out; omega⟩, ⟨by (with_reducible repeat (first | refine blk_drewN ?_ _ | refine blk_drew ?_ | refine blk_alloc ?_ _)); exact BK682.out⟩, ⟨by repeat (first | (with_reducible first | exact HB.out | apply below_alloc | apply pw_below_drewN | apply below_drew1 | refine below_set ?_ GE682.out) | exact HB.out)⟩⟩
                    · rw [if_neg c23] at H
                      have c23b0 : decide (x9_3 < a0_0) = false := decide_eq_false c23
                      clear c23
                      by_cases c43 : x8_3 = true
                      · subst c43
                        have H1 : (some x7_1) = some r := by rw [if_pos rfl] at H; exact H
                        clear H
                        have H := H1
                        clear H1
                        obtain rfl := Option.some.inj H
                        have hcz44_0 : wr.cell? ⟨gb682, 0, none⟩ = some (.int .i64 a0_0) := (blk_cell BK682.out 0).trans rfl
                        have hcz44_1 : wr.cell? ⟨gb682, 1, none⟩ = some (.slice A0_1 l0_1.length c0_1) := (blk_cell BK682.out 1).trans rfl
                        have hcz44_2 : wr.cell? ⟨gb682, 2, none⟩ = some (.slice A0_2 l0_2.length c0_2) := (blk_cell BK682.out 2).trans rfl
                        have hcz44_3 : wr.cell? ⟨gb682, 3, none⟩ = some (.slice A0_3 l0_3.length c0_3) := (blk_cell BK682.out 3).trans rfl
                        have hfz44_0 := blk_frozen BK682.out 0
                        have hfz44_1 := blk_frozen BK682.out 1
                        have hfz44_2 := blk_frozen BK682.out 2
                        have hfz44_3 := blk_frozen BK682.out 3
                        go_wp2
                        go_ret
                        exact ⟨by first | rfl | (simp [errW_none, errW_some] <;> rfl) | (simp [*, errW_none, errW_some] <;> rfl), by repeat (first | (with_reducible first | exact HB.out | apply below_alloc | apply pw_below_drewN | apply below_drew1 | refine below_set ?_ GE682.out) | exact HB.out)⟩
                      · replace c43 := Bool.eq_false_iff.mpr c43
                        subst c43
                        have H1 : (impl_MeetGrades.l0 k3 a1 a2 (wrap64 (x7_1 + 1)) a0_0 l0_1 l0_2 l0_3) = some r := by rw [if_neg (show ¬ (false = true) by decide)] at H; exact H
                        clear H
                        have H := H1
                        clear H1
                        have H' := Aside0.mk H
                        clear H
                        have hcz45_0 : wr.cell? ⟨gb682, 0, none⟩ = some (.int .i64 a0_0) := (blk_cell BK682.out 0).trans rfl
                        have hcz45_1 : wr.cell? ⟨gb682, 1, none⟩ = some (.slice A0_1 l0_1.length c0_1) := (blk_cell BK682.out 1).trans rfl
                        have hcz45_2 : wr.cell? ⟨gb682, 2, none⟩ = some (.slice A0_2 l0_2.length c0_2) := (blk_cell BK682.out 2).trans rfl
                        have hcz45_3 : wr.cell? ⟨gb682, 3, none⟩ = some (.slice A0_3 l0_3.length c0_3) := (blk_cell BK682.out 3).trans rfl
                        have hfz45_0 := blk_frozen BK682.out 0
                        have hfz45_1 := blk_frozen BK682.out 1
                        have hfz45_2 := blk_frozen BK682.out 2
                        have hfz45_3 := blk_frozen BK682.out 3
                        go_wp2
                        go_roundg k3
                        case measure => have := HK1.out; have := HJ10.out; have := HK3.out; omega
                        case rel => exact ⟨(wrap64 (x7_1 + 1)), (by first | rfl | (simp; done) | (simp [*]; done)), H', ⟨by have := HK1.out; have := HJ10.out; have := HK3.out; omega⟩, ⟨by (with_reducible repeat (first | refine blk_drewN ?_ _ | refine blk_drew ?_ | refine blk_alloc ?_ _)); exact BK682.out⟩, ⟨by repeat (first | (with_reducible first | exact HB.out | apply below_alloc | apply pw_below_drewN | apply below_drew1 | refine below_set ?_ GE682.out) | exact HB.out)⟩⟩
        · rw [if_neg c10] at H
          have c10b0 : decide (x7_1 < a0_0) = false := decide_eq_false c10
          clear c10
          (first | rw [c10b0] | (simp only [i64_w, i32_w]; rw [c10b0]) | skip)
          obtain rfl := Option.some.inj H
          have hcz46_0 : wr.cell? ⟨gb682, 0, none⟩ = some (.int .i64 a0_0) := (blk_cell BK682.out 0).trans rfl
          have hcz46_1 : wr.cell? ⟨gb682, 1, none⟩ = some (.slice A0_1 l0_1.length c0_1) := (blk_cell BK682.out 1).trans rfl
          have hcz46_2 : wr.cell? ⟨gb682, 2, none⟩ = some (.slice A0_2 l0_2.length c0_2) := (blk_cell BK682.out 2).trans rfl
          have hcz46_3 : wr.cell? ⟨gb682, 3, none⟩ = some (.slice A0_3 l0_3.length c0_3) := (blk_cell BK682.out 3).trans rfl
          have hfz46_0 := blk_frozen BK682.out 0
          have hfz46_1 := blk_frozen BK682.out 1
          have hfz46_2 := blk_frozen BK682.out 2
          have hfz46_3 := blk_frozen BK682.out 3
          go_wp2
          go_ret
          exact ⟨by first | rfl | (simp [errW_none, errW_some] <;> rfl) | (simp [*, errW_none, errW_some] <;> rfl), by repeat (first | (with_reducible first | exact HB.out | apply below_alloc | apply pw_below_drewN | apply below_drew1 | refine below_set ?_ GE682.out) | exact HB.out)⟩
  · replace c9 := Bool.eq_false_iff.mpr c9
    subst c9
    have H1 : (some (-1)) = some r := by rw [if_neg (show ¬ (false = true) by decide)] at H; exact H
    clear H
    have H := H1
    clear H1
    obtain rfl := Option.some.inj H
    go_wp2
    go_ret
    exact ⟨by first | rfl | (simp [errW_none, errW_some] <;> rfl) | (simp [*, errW_none, errW_some] <;> rfl), by repeat (first | (with_reducible first | exact HB.out | apply below_alloc | apply pw_below_drewN | apply below_drew1 | refine below_set ?_ GE682.out) | exact HB.out)⟩

end Go.Proofs.Ythdbijjkcoafiaa.P
