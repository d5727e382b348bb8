-- Printed by this session's own program (wip/tools/mkprint.py) out of the translation. Not trusted: Lean checks it.
import Derived.Test.YthdbijjkcoafiaaP0
import Derived.Test.YthdbijjkcoafiaaPf16
import Derived.Test.YthdbijjkcoafiaaPf61
namespace Go.Proofs.Ythdbijjkcoafiaa.P
open Go.RowKit Go.Proofs.YthdbijjkcoafiaaW.PrintWords Go.Proofs.YthdbijjkcoafiaaW.PrintLast Go.Proofs.YthdbijjkcoafiaaW.PrintMore
attribute [local go_sem] max2_int min2_int max_two min_two max_three min_three max_four min_four   -- for this text's walks alone
set_option linter.unusedVariables false
set_option linter.unusedSimpArgs false

/-! ### spec_LeastGrade: function 30 -/
mutual
def spec_LeastGrade.l0 : Nat → Int → Int → List Int → List Int → List Bool → Option (Int)
  | 0, _, _, _, _, _ => none
  | k + 1, x3, x525000, x525001, x525002, x525003 => if x3 < x525000 then (spec_LeastGrade.l1 k x3 true 0 x525000 x525001 x525002 x525003) else (some (-1))
def spec_LeastGrade.l1 : Nat → Int → Bool → Int → Int → List Int → List Int → List Bool → Option (Int)
  | 0, _, _, _, _, _, _, _ => none
  | k + 1, x3, x4, x5, x525000, x525001, x525002, x525003 => if x5 < x525000 then (if x4 = true then ((spec_l1Le.f x525000 x525001 x525002 x525003 x3 x5).bind fun t526 => (spec_LeastGrade.l1 k x3 t526 (wrap64 (x5 + 1)) x525000 x525001 x525002 x525003)) else (spec_LeastGrade.l1 k x3 false (wrap64 (x5 + 1)) x525000 x525001 x525002 x525003)) else (if x4 = true then (some x3) else (spec_LeastGrade.l0 k (wrap64 (x3 + 1)) x525000 x525001 x525002 x525003))
end
def spec_LeastGrade.f (k : Nat) (a0_0 : Int) (l0_1 : List Int) (l0_2 : List Int) (l0_3 : List Bool) : Option (Int) := (spec_IsSystem.f k a0_0 l0_1 l0_2 l0_3).bind fun t525 => (if t525 = true then (spec_LeastGrade.l0 k 0 a0_0 l0_1 l0_2 l0_3) else (some (-1)))
set_option maxHeartbeats 8000000 in
set_option maxRecDepth 100000 in
theorem spec_LeastGrade.calls (k : Nat) (a0_0 : Int) (A0_1 : Option Addr) (c0_1 : Nat) (l0_1 : List Int) (A0_2 : Option Addr) (c0_2 : Nat) (l0_2 : List Int) (A0_3 : Option Addr) (c0_3 : Nat) (l0_3 : List Bool) (r : Int) (w : World) (hr0_1 : Kd.C (Kd.int .i64) w A0_1 l0_1.length l0_1) (hc0_1 : l0_1.length ≤ c0_1) (hr0_2 : Kd.C (Kd.int .i64) w A0_2 l0_2.length l0_2) (hc0_2 : l0_2.length ≤ c0_2) (hr0_3 : Kd.C Kd.bool w A0_3 l0_3.length l0_3) (hc0_3 : l0_3.length ≤ c0_3) (h : spec_LeastGrade.f k a0_0 l0_1 l0_2 l0_3 = some r) :
    Calls Try.prog 30 #[.agg #[.int .i64 a0_0, .slice A0_1 l0_1.length c0_1, .slice A0_2 l0_2.length c0_2, .slice A0_3 l0_3.length c0_3]] w fun e w' => e = .returned (.int .i64 r) ∧ Below w.heap.size w w' := by
  have hu28 := Try.underlying28
  have HR0_1 := Aside0.mk hr0_1
  have HC0_1 := Aside0.mk hc0_1
  clear hr0_1 hc0_1
  have HR0_2 := Aside0.mk hr0_2
  have HC0_2 := Aside0.mk hc0_2
  clear hr0_2 hc0_2
  have HR0_3 := Aside0.mk hr0_3
  have HC0_3 := Aside0.mk hc0_3
  clear hr0_3 hc0_3
  have HB := Aside0.mk (Below.refl w.heap.size w)
  have H : ((spec_IsSystem.f k a0_0 l0_1 l0_2 l0_3).bind fun t525 => (if t525 = true then (spec_LeastGrade.l0 k 0 a0_0 l0_1 l0_2 l0_3) else (some (-1)))) = some r := h
  clear h
  replace H := Option.bind_eq_some_iff.mp H
  obtain ⟨t525, A20, H⟩ := H
  replace H : (if t525 = true then (spec_LeastGrade.l0 k 0 a0_0 l0_1 l0_2 l0_3) else (some (-1))) = some r := H
  have A2 := Aside0.mk A20
  clear A20
  have HP3 := Aside0.mk H
  clear H
  go_enter Try.func30, Try.ntmps30
  go_upto_if 8 with (first | ((with_reducible refine gate_dst (N := 1) rfl ?_); refine box_event ?hg (N := 1) ?hd (cs := #[.int .i64 a0_0, .slice A0_1 l0_1.length c0_1, .slice A0_2 l0_2.length c0_2, .slice A0_3 l0_3.length c0_3]) (t := 28) ?hr ?_; (case hd => rfl); (case hg => rfl); (case hr => first | (go_simp; done) | (go_simp; rfl)); intro gb524 hg w4 hbox hb; have n0_ := Aside0.mk (below_step (by repeat (first | (with_reducible first | exact HB.out | apply below_alloc | apply pw_below_drewN | apply below_drew1) | exact HB.out)) hb); have n1_ := Aside0.mk (hbox); have n2_ := Aside0.mk ((by rw [hg]; exact (below_size (by repeat (first | (with_reducible first | exact HB.out | apply below_alloc | apply pw_below_drewN | apply below_drew1) | exact HB.out))) : w.heap.size ≤ gb524)); have n3_ := Aside0.mk ((by rw [hg]; exact (below_size (by repeat (first | (with_reducible first | exact HB.out | apply below_alloc | apply pw_below_drewN | apply below_drew1) | exact HB.out))) : w.heap.size ≤ gb524)); clear HB; have HB := n0_; have BK524 := n1_; have GW524 := n2_; have GE524 := n3_; clear n0_ n1_ n2_ n3_; clear hb hbox hg; have hcz5_0 : w4.cell? ⟨gb524, 0, none⟩ = some (.int .i64 a0_0) := (blk_cell BK524.out 0).trans rfl; have hcz5_1 : w4.cell? ⟨gb524, 1, none⟩ = some (.slice A0_1 l0_1.length c0_1) := (blk_cell BK524.out 1).trans rfl; have hcz5_2 : w4.cell? ⟨gb524, 2, none⟩ = some (.slice A0_2 l0_2.length c0_2) := (blk_cell BK524.out 2).trans rfl; have hcz5_3 : w4.cell? ⟨gb524, 3, none⟩ = some (.slice A0_3 l0_3.length c0_3) := (blk_cell BK524.out 3).trans rfl; have hfz5_0 := blk_frozen BK524.out 0; have hfz5_1 := blk_frozen BK524.out 1; have hfz5_2 := blk_frozen BK524.out 2; have hfz5_3 := blk_frozen BK524.out 3) | ((with_reducible refine gate_callee (f := 16) rfl ?_); refine goesL_ (some 7) rfl rfl Try.func16 (by kernel_rfl) rfl #[.agg #[.int .i64 a0_0, .slice A0_1 l0_1.length c0_1, .slice A0_2 l0_2.length c0_2, .slice A0_3 l0_3.length c0_3]] rfl (by (try simp only [List.map_toArray, List.map_cons, List.map_nil]); first | done | rfl | (simp only [List.length_drop, List.length_take]; rfl)) ?_; (with_reducible refine (spec_IsSystem.calls k a0_0 _ _ l0_1 _ _ l0_2 _ _ l0_3 t525 _ ?side1 ?side2 ?side3 ?side4 ?side5 ?side6 A2.out).mono ?_); (case side1 => repeat (first | exact (Kd.C_below HR0_1.out HB.out) | (with_reducible refine Kd.C_alloc ?_ _) | (with_reducible refine Kd.C_drewN ?_ _) | (with_reducible refine Kd.C_drew ?_))); (case side2 => exact HC0_1.out); (case side3 => repeat (first | exact (Kd.C_below HR0_2.out HB.out) | (with_reducible refine Kd.C_alloc ?_ _) | (with_reducible refine Kd.C_drewN ?_ _) | (with_reducible refine Kd.C_drew ?_))); (case side4 => exact HC0_2.out); (case side5 => repeat (first | exact (Kd.C_below HR0_3.out HB.out) | (with_reducible refine Kd.C_alloc ?_ _) | (with_reducible refine Kd.C_drewN ?_ _) | (with_reducible refine Kd.C_drew ?_))); (case side6 => exact HC0_3.out); rintro e w6 ⟨rfl, hb⟩; refine ⟨_, rfl, ?_⟩; have n0_ := Aside0.mk (blk_below (g := gb524) (o := .cells #[.int .i64 a0_0, .slice A0_1 l0_1.length c0_1, .slice A0_2 l0_2.length c0_2, .slice A0_3 l0_3.length c0_3] 28 (0, 0)) (by (with_reducible repeat (first | refine blk_drewN ?_ _ | refine blk_drew ?_ | refine blk_alloc ?_ _)); exact BK524.out) hb); have n1_ := Aside0.mk (below_step (by repeat (first | (with_reducible first | exact HB.out | apply below_alloc | apply pw_below_drewN | apply below_drew1 | refine below_set ?_ GE524.out) | exact HB.out)) hb); clear BK524; clear HB; have BK524 := n0_; have HB := n1_; clear n0_ n1_; (try clear hb); (try clear hb2); (try clear hk); (try clear hi)))
  have H := HP3.out
  clear HP3
  by_cases c7 : t525 = true
  · subst c7
    have H1 : (spec_LeastGrade.l0 k 0 a0_0 l0_1 l0_2 l0_3) = some r := by rw [if_pos rfl] at H; exact H
    clear H
    have H := H1
    clear H1
    have H' := Aside0.mk H
    clear H
    go_wp2
    go_loopg [3] k (fun kq v3 w' => ∃ (x3_1 : Int), v3 = .int .i64 x3_1 ∧ Aside0 (spec_LeastGrade.l0 kq x3_1 a0_0 l0_1 l0_2 l0_3 = some r) ∧ Aside0 (kq ≤ k) ∧ Aside0 (w'.heap[gb524]? = some (.cells #[.int .i64 a0_0, (.slice A0_1 l0_1.length c0_1), (.slice A0_2 l0_2.length c0_2), (.slice A0_3 l0_3.length c0_3)] 28 (0, 0))) ∧ Aside0 (Below w.heap.size w w'))
    case atStart => exact ⟨(0), (by first | rfl | (simp; done) | (simp [*]; done)), H', ⟨Nat.le_refl _⟩, ⟨by (with_reducible repeat (first | refine blk_drewN ?_ _ | refine blk_drew ?_ | refine blk_alloc ?_ _)); exact BK524.out⟩, ⟨by repeat (first | (with_reducible first | exact HB.out | apply below_alloc | apply pw_below_drewN | apply below_drew1 | refine below_set ?_ GE524.out) | exact HB.out)⟩⟩
    case round =>
      clear H'
      try clear c1
      try clear p2
      try clear c3
      try clear c7
      try clear hcz5_0
      try clear hcz5_1
      try clear hcz5_2
      try clear hcz5_3
      try clear hfz5_0
      try clear hfz5_1
      try clear hfz5_2
      try clear hfz5_3
      obtain ⟨x3_1, rfl, HA, HK1, BK524, HB⟩ := hrel
      cases gk with
      | zero => exact absurd HA.out (by simp [spec_LeastGrade.l0])
      | succ k1 =>
        have H := HA.out
        clear HA
        simp only [spec_LeastGrade.l0] at H
        by_cases c8 : x3_1 < a0_0
        · rw [if_pos c8] at H
          have c8b0 : decide (x3_1 < a0_0) = true := decide_eq_true c8
          clear c8
          (first | rw [c8b0] | (simp only [i64_w, i32_w]; rw [c8b0]) | skip)
          have H' := Aside0.mk H
          clear H
          have hcz9_0 : wr.cell? ⟨gb524, 0, none⟩ = some (.int .i64 a0_0) := (blk_cell BK524.out 0).trans rfl
          have hcz9_1 : wr.cell? ⟨gb524, 1, none⟩ = some (.slice A0_1 l0_1.length c0_1) := (blk_cell BK524.out 1).trans rfl
          have hcz9_2 : wr.cell? ⟨gb524, 2, none⟩ = some (.slice A0_2 l0_2.length c0_2) := (blk_cell BK524.out 2).trans rfl
          have hcz9_3 : wr.cell? ⟨gb524, 3, none⟩ = some (.slice A0_3 l0_3.length c0_3) := (blk_cell BK524.out 3).trans rfl
          have hfz9_0 := blk_frozen BK524.out 0
          have hfz9_1 := blk_frozen BK524.out 1
          have hfz9_2 := blk_frozen BK524.out 2
          have hfz9_3 := blk_frozen BK524.out 3
          go_wp2
          go_loopg [4, 5] k1 (fun kq v4 v5 w' => ∃ (x4_2 : Bool) (x5_2 : Int), v4 = .bool x4_2 ∧ v5 = .int .i64 x5_2 ∧ Aside0 (spec_LeastGrade.l1 kq x3_1 x4_2 x5_2 a0_0 l0_1 l0_2 l0_3 = some r) ∧ Aside0 (kq ≤ k1) ∧ Aside0 (w'.heap[gb524]? = some (.cells #[.int .i64 a0_0, (.slice A0_1 l0_1.length c0_1), (.slice A0_2 l0_2.length c0_2), (.slice A0_3 l0_3.length c0_3)] 28 (0, 0))) ∧ Aside0 (Below w.heap.size w w'))
          case atStart => exact ⟨(true), (0), (by first | rfl | (simp; done) | (simp [*]; done)), (by first | rfl | (simp; done) | (simp [*]; done)), H', ⟨Nat.le_refl _⟩, ⟨by (with_reducible repeat (first | refine blk_drewN ?_ _ | refine blk_drew ?_ | refine blk_alloc ?_ _)); exact BK524.out⟩, ⟨by repeat (first | (with_reducible first | exact HB.out | apply below_alloc | apply pw_below_drewN | apply below_drew1 | refine below_set ?_ GE524.out) | exact HB.out)⟩⟩
          case round =>
            clear H'
            try clear c1
            try clear p2
            try clear c3
            try clear c7
            try clear c8
            try clear c8b0
            try clear hcz5_0
            try clear hcz5_1
            try clear hcz5_2
            try clear hcz5_3
            try clear hcz9_0
            try clear hcz9_1
            try clear hcz9_2
            try clear hcz9_3
            try clear hfz5_0
            try clear hfz5_1
            try clear hfz5_2
            try clear hfz5_3
            try clear hfz9_0
            try clear hfz9_1
            try clear hfz9_2
            try clear hfz9_3
            try clear p2
            obtain ⟨x4_2, x5_2, rfl, rfl, HA, HK2, BK524, HB⟩ := hrel
            cases gk with
            | zero => exact absurd HA.out (by simp [spec_LeastGrade.l1])
            | succ k2 =>
              have H := HA.out
              clear HA
              simp only [spec_LeastGrade.l1] at H
              by_cases c10 : x5_2 < a0_0
              · rw [if_pos c10] at H
                have c10b0 : decide (x5_2 < a0_0) = true := decide_eq_true c10
                clear c10
                by_cases c11 : x4_2 = true
                · subst c11
                  have H1 : ((spec_l1Le.f a0_0 l0_1 l0_2 l0_3 x3_1 x5_2).bind fun t526 => (spec_LeastGrade.l1 k2 x3_1 t526 (wrap64 (x5_2 + 1)) a0_0 l0_1 l0_2 l0_3)) = some r := by rw [if_pos rfl] at H; exact H
                  clear H
                  have H := H1
                  clear H1
                  replace H := Option.bind_eq_some_iff.mp H
                  obtain ⟨t526, A120, H⟩ := H
                  replace H : (spec_LeastGrade.l1 k2 x3_1 t526 (wrap64 (x5_2 + 1)) a0_0 l0_1 l0_2 l0_3) = some r := H
                  have A12 := Aside0.mk A120
                  clear A120
                  have H' := Aside0.mk H
                  clear H
                  have hcz13_0 : wr.cell? ⟨gb524, 0, none⟩ = some (.int .i64 a0_0) := (blk_cell BK524.out 0).trans rfl
                  have hcz13_1 : wr.cell? ⟨gb524, 1, none⟩ = some (.slice A0_1 l0_1.length c0_1) := (blk_cell BK524.out 1).trans rfl
                  have hcz13_2 : wr.cell? ⟨gb524, 2, none⟩ = some (.slice A0_2 l0_2.length c0_2) := (blk_cell BK524.out 2).trans rfl
                  have hcz13_3 : wr.cell? ⟨gb524, 3, none⟩ = some (.slice A0_3 l0_3.length c0_3) := (blk_cell BK524.out 3).trans rfl
                  have hfz13_0 := blk_frozen BK524.out 0
                  have hfz13_1 := blk_frozen BK524.out 1
                  have hfz13_2 := blk_frozen BK524.out 2
                  have hfz13_3 := blk_frozen BK524.out 3
                  go_wp2_with (first | (go_at_call 61; (with_reducible refine (spec_l1Le.calls a0_0 _ _ l0_1 _ _ l0_2 _ _ l0_3 x3_1 x5_2 t526 _ ?side1 ?side2 ?side3 ?side4 ?side5 ?side6 A12.out).mono ?_); (case side1 => repeat (first | exact (Kd.C_below HR0_1.out HB.out) | (with_reducible refine Kd.C_alloc ?_ _) | (with_reducible refine Kd.C_drewN ?_ _) | (with_reducible refine Kd.C_drew ?_))); (case side2 => exact HC0_1.out); (case side3 => repeat (first | exact (Kd.C_below HR0_2.out HB.out) | (with_reducible refine Kd.C_alloc ?_ _) | (with_reducible refine Kd.C_drewN ?_ _) | (with_reducible refine Kd.C_drew ?_))); (case side4 => exact HC0_2.out); (case side5 => repeat (first | exact (Kd.C_below HR0_3.out HB.out) | (with_reducible refine Kd.C_alloc ?_ _) | (with_reducible refine Kd.C_drewN ?_ _) | (with_reducible refine Kd.C_drew ?_))); (case side6 => exact HC0_3.out); rintro e w14 ⟨rfl, hb⟩; have n0_ := Aside0.mk (blk_below (g := gb524) (o := .cells #[.int .i64 a0_0, .slice A0_1 l0_1.length c0_1, .slice A0_2 l0_2.length c0_2, .slice A0_3 l0_3.length c0_3] 28 (0, 0)) (by (with_reducible repeat (first | refine blk_drewN ?_ _ | refine blk_drew ?_ | refine blk_alloc ?_ _)); exact BK524.out) hb); have n1_ := Aside0.mk (below_step (by repeat (first | (with_reducible first | exact HB.out | apply below_alloc | apply pw_below_drewN | apply below_drew1 | refine below_set ?_ GE524.out) | exact HB.out)) hb); clear BK524; clear HB; have BK524 := n0_; have HB := n1_; clear n0_ n1_; (try clear hb); (try clear hb2); (try clear hk); (try clear hi)))
                  go_roundg k2
                  case measure => have := HK1.out; have := HK2.out; omega
                  case rel => exact ⟨(t526), (wrap64 (x5_2 + 1)), (by first | rfl | (simp; done) | (simp [*]; done)), (by first | rfl | (simp; done) | (simp [*]; done)), H', ⟨by have := HK1.out; have := HK2.out; omega⟩, ⟨by (with_reducible repeat (first | refine blk_drewN ?_ _ | refine blk_drew ?_ | refine blk_alloc ?_ _)); exact BK524.out⟩, ⟨by repeat (first | (with_reducible first | exact HB.out | apply below_alloc | apply pw_below_drewN | apply below_drew1 | refine below_set ?_ GE524.out) | exact HB.out)⟩⟩
                · replace c11 := Bool.eq_false_iff.mpr c11
                  subst c11
                  have H1 : (spec_LeastGrade.l1 k2 x3_1 false (wrap64 (x5_2 + 1)) a0_0 l0_1 l0_2 l0_3) = some r := by rw [if_neg (show ¬ (false = true) by decide)] at H; exact H
                  clear H
                  have H := H1
                  clear H1
                  have H' := Aside0.mk H
                  clear H
                  have hcz15_0 : wr.cell? ⟨gb524, 0, none⟩ = some (.int .i64 a0_0) := (blk_cell BK524.out 0).trans rfl
                  have hcz15_1 : wr.cell? ⟨gb524, 1, none⟩ = some (.slice A0_1 l0_1.length c0_1) := (blk_cell BK524.out 1).trans rfl
                  have hcz15_2 : wr.cell? ⟨gb524, 2, none⟩ = some (.slice A0_2 l0_2.length c0_2) := (blk_cell BK524.out 2).trans rfl
                  have hcz15_3 : wr.cell? ⟨gb524, 3, none⟩ = some (.slice A0_3 l0_3.length c0_3) := (blk_cell BK524.out 3).trans rfl
                  have hfz15_0 := blk_frozen BK524.out 0
                  have hfz15_1 := blk_frozen BK524.out 1
                  have hfz15_2 := blk_frozen BK524.out 2
                  have hfz15_3 := blk_frozen BK524.out 3
                  go_wp2
                  go_roundg k2
                  case measure => have := HK1.out; have := HK2.out; omega
                  case rel => exact ⟨(false), (wrap64 (x5_2 + 1)), (by first | rfl | (simp; done) | (simp [*]; done)), (by first | rfl | (simp; done) | (simp [*]; done)), H', ⟨by have := HK1.out; have := HK2.out; omega⟩, ⟨by (with_reducible repeat (first | refine blk_drewN ?_ _ | refine blk_drew ?_ | refine blk_alloc ?_ _)); exact BK524.out⟩, ⟨by repeat (first | (with_reducible first | exact HB.out | apply below_alloc | apply pw_below_drewN | apply below_drew1 | refine below_set ?_ GE524.out) | exact HB.out)⟩⟩
              · rw [if_neg c10] at H
                have c10b0 : decide (x5_2 < a0_0) = false := decide_eq_false c10
                clear c10
                by_cases c16 : x4_2 = true
                · subst c16
                  have H1 : (some x3_1) = some r := by rw [if_pos rfl] at H; exact H
                  clear H
                  have H := H1
                  clear H1
                  obtain rfl := Option.some.inj H
                  have hcz17_0 : wr.cell? ⟨gb524, 0, none⟩ = some (.int .i64 a0_0) := (blk_cell BK524.out 0).trans rfl
                  have hcz17_1 : wr.cell? ⟨gb524, 1, none⟩ = some (.slice A0_1 l0_1.length c0_1) := (blk_cell BK524.out 1).trans rfl
                  have hcz17_2 : wr.cell? ⟨gb524, 2, none⟩ = some (.slice A0_2 l0_2.length c0_2) := (blk_cell BK524.out 2).trans rfl
                  have hcz17_3 : wr.cell? ⟨gb524, 3, none⟩ = some (.slice A0_3 l0_3.length c0_3) := (blk_cell BK524.out 3).trans rfl
                  have hfz17_0 := blk_frozen BK524.out 0
                  have hfz17_1 := blk_frozen BK524.out 1
                  have hfz17_2 := blk_frozen BK524.out 2
                  have hfz17_3 := blk_frozen BK524.out 3
                  go_wp2
                  go_ret
                  exact ⟨by first | rfl | (simp [errW_none, errW_some] <;> rfl) | (simp [*, errW_none, errW_some] <;> rfl), by repeat (first | (with_reducible first | exact HB.out | apply below_alloc | apply pw_below_drewN | apply below_drew1 | refine below_set ?_ GE524.out) | exact HB.out)⟩
                · replace c16 := Bool.eq_false_iff.mpr c16
                  subst c16
                  have H1 : (spec_LeastGrade.l0 k2 (wrap64 (x3_1 + 1)) a0_0 l0_1 l0_2 l0_3) = some r := by rw [if_neg (show ¬ (false = true) by decide)] at H; exact H
                  clear H
                  have H := H1
                  clear H1
                  have H' := Aside0.mk H
                  clear H
                  have hcz18_0 : wr.cell? ⟨gb524, 0, none⟩ = some (.int .i64 a0_0) := (blk_cell BK524.out 0).trans rfl
                  have hcz18_1 : wr.cell? ⟨gb524, 1, none⟩ = some (.slice A0_1 l0_1.length c0_1) := (blk_cell BK524.out 1).trans rfl
                  have hcz18_2 : wr.cell? ⟨gb524, 2, none⟩ = some (.slice A0_2 l0_2.length c0_2) := (blk_cell BK524.out 2).trans rfl
                  have hcz18_3 : wr.cell? ⟨gb524, 3, none⟩ = some (.slice A0_3 l0_3.length c0_3) := (blk_cell BK524.out 3).trans rfl
                  have hfz18_0 := blk_frozen BK524.out 0
                  have hfz18_1 := blk_frozen BK524.out 1
                  have hfz18_2 := blk_frozen BK524.out 2
                  have hfz18_3 := blk_frozen BK524.out 3
                  go_wp2
                  go_roundg k2
                  case measure => have := HK1.out; have := HK2.out; omega
                  case rel => exact ⟨(wrap64 (x3_1 + 1)), (by first | rfl | (simp; done) | (simp [*]; done)), H', ⟨by have := HK1.out; have := HK2.out; omega⟩, ⟨by (with_reducible repeat (first | refine blk_drewN ?_ _ | refine blk_drew ?_ | refine blk_alloc ?_ _)); exact BK524.out⟩, ⟨by repeat (first | (with_reducible first | exact HB.out | apply below_alloc | apply pw_below_drewN | apply below_drew1 | refine below_set ?_ GE524.out) | exact HB.out)⟩⟩
        · rw [if_neg c8] at H
          have c8b0 : decide (x3_1 < a0_0) = false := decide_eq_false c8
          clear c8
          (first | rw [c8b0] | (simp only [i64_w, i32_w]; rw [c8b0]) | skip)
          obtain rfl := Option.some.inj H
          have hcz19_0 : wr.cell? ⟨gb524, 0, none⟩ = some (.int .i64 a0_0) := (blk_cell BK524.out 0).trans rfl
          have hcz19_1 : wr.cell? ⟨gb524, 1, none⟩ = some (.slice A0_1 l0_1.length c0_1) := (blk_cell BK524.out 1).trans rfl
          have hcz19_2 : wr.cell? ⟨gb524, 2, none⟩ = some (.slice A0_2 l0_2.length c0_2) := (blk_cell BK524.out 2).trans rfl
          have hcz19_3 : wr.cell? ⟨gb524, 3, none⟩ = some (.slice A0_3 l0_3.length c0_3) := (blk_cell BK524.out 3).trans rfl
          have hfz19_0 := blk_frozen BK524.out 0
          have hfz19_1 := blk_frozen BK524.out 1
          have hfz19_2 := blk_frozen BK524.out 2
          have hfz19_3 := blk_frozen BK524.out 3
          go_wp2
          go_ret
          exact ⟨by first | rfl | (simp [errW_none, errW_some] <;> rfl) | (simp [*, errW_none, errW_some] <;> rfl), by repeat (first | (with_reducible first | exact HB.out | apply below_alloc | apply pw_below_drewN | apply below_drew1 | refine below_set ?_ GE524.out) | exact HB.out)⟩
  · replace c7 := Bool.eq_false_iff.mpr c7
    subst c7
    have H1 : (some (-1)) = some r := by rw [if_neg (show ¬ (false = true) by decide)] at H; exact H
    clear H
    have H := H1
    clear H1
    obtain rfl := Option.some.inj H
    go_wp2
    go_ret
    exact ⟨by first | rfl | (simp [errW_none, errW_some] <;> rfl) | (simp [*, errW_none, errW_some] <;> rfl), by repeat (first | (with_reducible first | exact HB.out | apply below_alloc | apply pw_below_drewN | apply below_drew1 | refine below_set ?_ GE524.out) | exact HB.out)⟩

end Go.Proofs.Ythdbijjkcoafiaa.P
