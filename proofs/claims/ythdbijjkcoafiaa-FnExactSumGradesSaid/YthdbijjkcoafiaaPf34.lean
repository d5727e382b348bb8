-- Printed by this session's own program (wip/tools/mkprint.py) out of the translation. Not trusted: Lean checks it.
import Derived.Test.YthdbijjkcoafiaaP0
import Derived.Test.YthdbijjkcoafiaaPf16
import Derived.Test.YthdbijjkcoafiaaPf59
import Derived.Test.YthdbijjkcoafiaaPf63
namespace Go.Proofs.Ythdbijjkcoafiaa.P
open Go.RowKit Go.Proofs.YthdbijjkcoafiaaW.PrintWords Go.Proofs.YthdbijjkcoafiaaW.PrintLast Go.Proofs.YthdbijjkcoafiaaW.PrintMore
attribute [local go_sem] max2_int min2_int max_two min_two max_three min_three max_four min_four   -- for this text's walks alone
set_option linter.unusedVariables false
set_option linter.unusedSimpArgs false

/-! ### spec_SumGrades: function 34 -/
def spec_SumGrades.l0 : Nat → List Int → Int → Int → Int → List Int → List Int → List Bool → Option (Int)
  | 0, _, _, _, _, _, _, _ => none
  | k + 1, x1, x5, x6, x615000, x615001, x615002, x615003 => if x6 < (x1.length : Int) then (if 0 ≤ x6 then ((spec_l1In.f (rd x1 x6) 0 (wrap64 (x615000 - 1))).bind fun t617 => (if t617 = true then ((spec_l1Add.f x615000 x615001 x615002 x615003 x5 (rd x1 x6)).bind fun t619 => (spec_SumGrades.l0 k x1 t619 (wrap64 (x6 + 1)) x615000 x615001 x615002 x615003)) else (some (-1)))) else (none)) else (some x5)
def spec_SumGrades.f (k : Nat) (a0_0 : Int) (l0_1 : List Int) (l0_2 : List Int) (l0_3 : List Bool) (l1 : List Int) : Option (Int) := (spec_IsSystem.f k a0_0 l0_1 l0_2 l0_3).bind fun t615 => (if t615 = true then (spec_SumGrades.l0 k l1 0 0 a0_0 l0_1 l0_2 l0_3) else (some (-1)))
set_option maxHeartbeats 8000000 in
set_option maxRecDepth 100000 in
theorem spec_SumGrades.calls (k : Nat) (a0_0 : Int) (A0_1 : Option Addr) (c0_1 : Nat) (l0_1 : List Int) (A0_2 : Option Addr) (c0_2 : Nat) (l0_2 : List Int) (A0_3 : Option Addr) (c0_3 : Nat) (l0_3 : List Bool) (A1 : Option Addr) (c1 : Nat) (l1 : List Int) (r : Int) (w : World) (hr0_1 : Kd.C (Kd.int .i64) w A0_1 l0_1.length l0_1) (hc0_1 : l0_1.length ≤ c0_1) (hr0_2 : Kd.C (Kd.int .i64) w A0_2 l0_2.length l0_2) (hc0_2 : l0_2.length ≤ c0_2) (hr0_3 : Kd.C Kd.bool w A0_3 l0_3.length l0_3) (hc0_3 : l0_3.length ≤ c0_3) (hr1 : Kd.C (Kd.int .i64) w A1 l1.length l1) (hc1 : l1.length ≤ c1) (h : spec_SumGrades.f k a0_0 l0_1 l0_2 l0_3 l1 = some r) :
    Calls Try.prog 34 #[.agg #[.int .i64 a0_0, .slice A0_1 l0_1.length c0_1, .slice A0_2 l0_2.length c0_2, .slice A0_3 l0_3.length c0_3], .slice A1 l1.length c1] w fun e w' => e = .returned (.int .i64 r) ∧ Below w.heap.size w w' := by
  have hu28 := Try.underlying28
  have HR0_1 := Aside0.mk hr0_1
  have HC0_1 := Aside0.mk hc0_1
  clear hr0_1 hc0_1
  have HR0_2 := Aside0.mk hr0_2
  have HC0_2 := Aside0.mk hc0_2
  clear hr0_2 hc0_2
  have HR0_3 := Aside0.mk hr0_3
  have HC0_3 := Aside0.mk hc0_3
  clear hr0_3 hc0_3
  have HR1 := Aside0.mk hr1
  have HC1 := Aside0.mk hc1
  clear hr1 hc1
  have HB := Aside0.mk (Below.refl w.heap.size w)
  have H : ((spec_IsSystem.f k a0_0 l0_1 l0_2 l0_3).bind fun t615 => (if t615 = true then (spec_SumGrades.l0 k l1 0 0 a0_0 l0_1 l0_2 l0_3) else (some (-1)))) = some r := h
  clear h
  replace H := Option.bind_eq_some_iff.mp H
  obtain ⟨t615, A30, H⟩ := H
  replace H : (if t615 = true then (spec_SumGrades.l0 k l1 0 0 a0_0 l0_1 l0_2 l0_3) else (some (-1))) = some r := H
  have A3 := Aside0.mk A30
  clear A30
  by_cases c4 : t615 = true
  · subst c4
    have H1 : (spec_SumGrades.l0 k l1 0 0 a0_0 l0_1 l0_2 l0_3) = some r := by rw [if_pos rfl] at H; exact H
    clear H
    have H := H1
    clear H1
    have H' := Aside0.mk H
    clear H
    go_enter Try.func34, Try.ntmps34
    go_wp2_with (first | ((with_reducible refine gate_dst (N := 2) rfl ?_); refine box_event ?hg (N := 2) ?hd (cs := #[.int .i64 a0_0, .slice A0_1 l0_1.length c0_1, .slice A0_2 l0_2.length c0_2, .slice A0_3 l0_3.length c0_3]) (t := 28) ?hr ?_; (case hd => rfl); (case hg => rfl); (case hr => first | (go_simp; done) | (go_simp; rfl)); intro gb614 hg w5 hbox hb; have n0_ := Aside0.mk (below_step (by repeat (first | (with_reducible first | exact HB.out | apply below_alloc | apply pw_below_drewN | apply below_drew1) | exact HB.out)) hb); have n1_ := Aside0.mk (hbox); have n2_ := Aside0.mk ((by rw [hg]; exact (below_size (by repeat (first | (with_reducible first | exact HB.out | apply below_alloc | apply pw_below_drewN | apply below_drew1) | exact HB.out))) : w.heap.size ≤ gb614)); have n3_ := Aside0.mk ((by rw [hg]; exact (below_size (by repeat (first | (with_reducible first | exact HB.out | apply below_alloc | apply pw_below_drewN | apply below_drew1) | exact HB.out))) : w.heap.size ≤ gb614)); clear HB; have HB := n0_; have BK614 := n1_; have GW614 := n2_; have GE614 := n3_; clear n0_ n1_ n2_ n3_; clear hb hbox hg; have hcz6_0 : w5.cell? ⟨gb614, 0, none⟩ = some (.int .i64 a0_0) := (blk_cell BK614.out 0).trans rfl; have hcz6_1 : w5.cell? ⟨gb614, 1, none⟩ = some (.slice A0_1 l0_1.length c0_1) := (blk_cell BK614.out 1).trans rfl; have hcz6_2 : w5.cell? ⟨gb614, 2, none⟩ = some (.slice A0_2 l0_2.length c0_2) := (blk_cell BK614.out 2).trans rfl; have hcz6_3 : w5.cell? ⟨gb614, 3, none⟩ = some (.slice A0_3 l0_3.length c0_3) := (blk_cell BK614.out 3).trans rfl; have hfz6_0 := blk_frozen BK614.out 0; have hfz6_1 := blk_frozen BK614.out 1; have hfz6_2 := blk_frozen BK614.out 2; have hfz6_3 := blk_frozen BK614.out 3) | ((with_reducible refine gate_callee (f := 16) rfl ?_); refine goesL_ (some 8) rfl rfl Try.func16 (by kernel_rfl) rfl #[.agg #[.int .i64 a0_0, .slice A0_1 l0_1.length c0_1, .slice A0_2 l0_2.length c0_2, .slice A0_3 l0_3.length c0_3]] rfl (by (try simp only [List.map_toArray, List.map_cons, List.map_nil]); first | done | rfl | (simp only [List.length_drop, List.length_take]; rfl)) ?_; (with_reducible refine (spec_IsSystem.calls k a0_0 _ _ l0_1 _ _ l0_2 _ _ l0_3 true _ ?side1 ?side2 ?side3 ?side4 ?side5 ?side6 A3.out).mono ?_); (case side1 => repeat (first | exact (Kd.C_below HR0_1.out HB.out) | (with_reducible refine Kd.C_alloc ?_ _) | (with_reducible refine Kd.C_drewN ?_ _) | (with_reducible refine Kd.C_drew ?_))); (case side2 => exact HC0_1.out); (case side3 => repeat (first | exact (Kd.C_below HR0_2.out HB.out) | (with_reducible refine Kd.C_alloc ?_ _) | (with_reducible refine Kd.C_drewN ?_ _) | (with_reducible refine Kd.C_drew ?_))); (case side4 => exact HC0_2.out); (case side5 => repeat (first | exact (Kd.C_below HR0_3.out HB.out) | (with_reducible refine Kd.C_alloc ?_ _) | (with_reducible refine Kd.C_drewN ?_ _) | (with_reducible refine Kd.C_drew ?_))); (case side6 => exact HC0_3.out); rintro e w7 ⟨rfl, hb⟩; refine ⟨_, rfl, ?_⟩; have n0_ := Aside0.mk (blk_below (g := gb614) (o := .cells #[.int .i64 a0_0, .slice A0_1 l0_1.length c0_1, .slice A0_2 l0_2.length c0_2, .slice A0_3 l0_3.length c0_3] 28 (0, 0)) (by (with_reducible repeat (first | refine blk_drewN ?_ _ | refine blk_drew ?_ | refine blk_alloc ?_ _)); exact BK614.out) hb); have n1_ := Aside0.mk (below_step (by repeat (first | (with_reducible first | exact HB.out | apply below_alloc | apply pw_below_drewN | apply below_drew1 | refine below_set ?_ GE614.out) | exact HB.out)) hb); clear BK614; clear HB; have BK614 := n0_; have HB := n1_; clear n0_ n1_; (try clear hb); (try clear hb2); (try clear hk); (try clear hi)))
    go_loopg [5, 6] k (fun kq v5 v6 w' => ∃ (x5_1 : Int) (x6_1 : Int), v5 = .int .i64 x5_1 ∧ v6 = .int .i64 x6_1 ∧ Aside0 (spec_SumGrades.l0 kq l1 x5_1 x6_1 a0_0 l0_1 l0_2 l0_3 = some r) ∧ Aside0 (kq ≤ k) ∧ Aside0 (w'.heap[gb614]? = some (.cells #[.int .i64 a0_0, (.slice A0_1 l0_1.length c0_1), (.slice A0_2 l0_2.length c0_2), (.slice A0_3 l0_3.length c0_3)] 28 (0, 0))) ∧ Aside0 (Below w.heap.size w w'))
    case atStart => exact ⟨(0), (0), (by first | rfl | (simp; done) | (simp [*]; done)), (by first | rfl | (simp; done) | (simp [*]; done)), H', ⟨Nat.le_refl _⟩, ⟨by (with_reducible repeat (first | refine blk_drewN ?_ _ | refine blk_drew ?_ | refine blk_alloc ?_ _)); exact BK614.out⟩, ⟨by repeat (first | (with_reducible first | exact HB.out | apply below_alloc | apply pw_below_drewN | apply below_drew1 | refine below_set ?_ GE614.out) | exact HB.out)⟩⟩
    case round =>
      clear H'
      try clear c1
      try clear p2
      try clear c3
      try clear c4
      try clear hcz6_0
      try clear hcz6_1
      try clear hcz6_2
      try clear hcz6_3
      try clear hfz6_0
      try clear hfz6_1
      try clear hfz6_2
      try clear hfz6_3
      obtain ⟨x5_1, x6_1, rfl, rfl, HA, HK1, BK614, HB⟩ := hrel
      cases gk with
      | zero => exact absurd HA.out (by simp [spec_SumGrades.l0])
      | succ k1 =>
        have H := HA.out
        clear HA
        simp only [spec_SumGrades.l0] at H
        by_cases c8 : x6_1 < (l1.length : Int)
        · rw [if_pos c8] at H
          have c8b0 : decide (x6_1 < (l1.length : Int)) = true := decide_eq_true c8
          clear c8
          by_cases c9 : 0 ≤ x6_1
          · rw [if_pos c9] at H
            have c9b0 : decide (0 ≤ x6_1) = true := decide_eq_true c9
            clear c9
            replace H := Option.bind_eq_some_iff.mp H
            obtain ⟨t617, A100, H⟩ := H
            replace H : (if t617 = true then ((spec_l1Add.f a0_0 l0_1 l0_2 l0_3 x5_1 (rd l1 x6_1)).bind fun t619 => (spec_SumGrades.l0 k1 l1 t619 (wrap64 (x6_1 + 1)) a0_0 l0_1 l0_2 l0_3)) else (some (-1))) = some r := H
            have A10 := Aside0.mk A100
            clear A100
            by_cases c11 : t617 = true
            · subst c11
              have H1 : ((spec_l1Add.f a0_0 l0_1 l0_2 l0_3 x5_1 (rd l1 x6_1)).bind fun t619 => (spec_SumGrades.l0 k1 l1 t619 (wrap64 (x6_1 + 1)) a0_0 l0_1 l0_2 l0_3)) = some r := by rw [if_pos rfl] at H; exact H
              clear H
              have H := H1
              clear H1
              replace H := Option.bind_eq_some_iff.mp H
              obtain ⟨t619, A120, H⟩ := H
              replace H : (spec_SumGrades.l0 k1 l1 t619 (wrap64 (x6_1 + 1)) a0_0 l0_1 l0_2 l0_3) = some r := H
              have A12 := Aside0.mk A120
              clear A120
              have H' := Aside0.mk H
              clear H
              try go_wp2
              have p616 : 0 ≤ (x6_1 : Int) := of_decide_eq_true (by first | (with_reducible assumption) | assumption)
              have q616 : x6_1 < (l1.length : Int) := of_decide_eq_true (by first | (with_reducible assumption) | assumption)
              obtain ⟨ad616, e616, hx616_0⟩ := Kd.at_int HR1.out x6_1 p616 q616
              cases e616
              replace hx616_0 := (HB.out.cell (World.block_lt_of_cell? w _ hx616_0)).trans hx616_0
              replace p616 := eq_true p616
              replace q616 := eq_true q616
              refine qb_region (by kernel_rfl) (by kernel_rfl) ?_
              repeat (first | (apply qb_skip; (focus rfl); (focus (simp only [Act.put, List.setIfInBounds_toArray, List.set_cons_zero, List.set_cons_succ, i64_w, i32_w]; rfl))) | (refine qb_callN 23 rfl ?_; apply qb_call 23 rfl (fn := Try.f59) Try.func59 (by kernel_rfl) rfl #[.int .i64 (rd l1 x6_1), .int .i64 0, .int .i64 (wrap64 (a0_0 - 1))] rfl; (focus rfl); (focus (rfl)); (focus (intro wq9 hb9_; have hb9 : Below wr.heap.size wr wq9 := hb9_; skip; (with_reducible refine (spec_l1In.calls (rd l1 x6_1) 0 (wrap64 (a0_0 - 1)) true _ A10.out).mono ?_); rintro e w' ⟨rfl, ⟨nd, rfl⟩⟩; exact ⟨rfl, pw_below_drewN hb9 _⟩)); (focus (simp only [Act.put, List.setIfInBounds_toArray, List.set_cons_zero, List.set_cons_succ, i64_w, i32_w]; rfl))) | (apply qb_val; (focus rfl); (focus (intro wq9 _; go_simp; with_reducible rfl)); (focus (simp only [Act.put, List.setIfInBounds_toArray, List.set_cons_zero, List.set_cons_succ, i64_w, i32_w]; rfl))) | (apply qb_val; (focus rfl); (focus (intro wq9 hb9_; have hb9 : Below wr.heap.size wr wq9 := hb9_; have BK614 := Aside0.mk (blk_below BK614.out hb9); have hc9_614_0 : wq9.cell? ⟨gb614, 0, none⟩ = some (.int .i64 a0_0) := (blk_cell BK614.out 0).trans rfl; have hc9_614_1 : wq9.cell? ⟨gb614, 1, none⟩ = some (.slice A0_1 l0_1.length c0_1) := (blk_cell BK614.out 1).trans rfl; have hc9_614_2 : wq9.cell? ⟨gb614, 2, none⟩ = some (.slice A0_2 l0_2.length c0_2) := (blk_cell BK614.out 2).trans rfl; have hc9_614_3 : wq9.cell? ⟨gb614, 3, none⟩ = some (.slice A0_3 l0_3.length c0_3) := (blk_cell BK614.out 3).trans rfl; have hx616_0 := (hb9.cell (World.block_lt_of_cell? _ _ hx616_0)).trans hx616_0; go_simp; with_reducible rfl)); (focus (simp only [Act.put, List.setIfInBounds_toArray, List.set_cons_zero, List.set_cons_succ, i64_w, i32_w]; rfl))))
              refine qb_nil ?_
              intro w13 hb
              have n0_ := Aside0.mk (blk_below BK614.out hb)
              have n1_ := Aside0.mk (below_step HB.out hb)
              clear BK614
              clear HB
              have BK614 := n0_
              have HB := n1_
              clear n0_ n1_
              clear hb
              try go_wp2
              have p618 : 0 ≤ (x6_1 : Int) := of_decide_eq_true (by first | (with_reducible assumption) | assumption)
              have q618 : x6_1 < (l1.length : Int) := of_decide_eq_true (by first | (with_reducible assumption) | assumption)
              obtain ⟨ad618, e618, hx618_0⟩ := Kd.at_int HR1.out x6_1 p618 q618
              obtain rfl : ad616 = ad618 := (by injection e618)
              replace hx618_0 := (HB.out.cell (World.block_lt_of_cell? w _ hx618_0)).trans hx618_0
              replace p618 := eq_true p618
              replace q618 := eq_true q618
              refine qb_region (by kernel_rfl) (by kernel_rfl) ?_
              repeat (first | (apply qb_skip; (focus rfl); (focus (simp only [Act.put, List.setIfInBounds_toArray, List.set_cons_zero, List.set_cons_succ, i64_w, i32_w]; rfl))) | (refine qb_callN 31 rfl ?_; apply qb_call 31 rfl (fn := Try.f63) Try.func63 (by kernel_rfl) rfl #[.agg #[.int .i64 a0_0, .slice A0_1 l0_1.length c0_1, .slice A0_2 l0_2.length c0_2, .slice A0_3 l0_3.length c0_3], .int .i64 x5_1, .int .i64 (rd l1 x6_1)] rfl; (focus rfl); (focus (rfl)); (focus (intro wq9 hb9_; have hb9 : Below w13.heap.size w13 wq9 := hb9_; have HB := Aside0.mk (below_step HB.out hb9); (with_reducible refine (spec_l1Add.calls a0_0 _ _ l0_1 _ _ l0_2 _ _ l0_3 x5_1 (rd l1 x6_1) t619 _ ?side1 ?side2 ?side3 ?side4 ?side5 ?side6 A12.out).mono ?_); (case side1 => exact (Kd.C_below HR0_1.out HB.out)); (case side2 => exact HC0_1.out); (case side3 => exact (Kd.C_below HR0_2.out HB.out)); (case side4 => exact HC0_2.out); (case side5 => exact (Kd.C_below HR0_3.out HB.out)); (case side6 => exact HC0_3.out); rintro e w14 ⟨rfl, hb⟩; exact ⟨rfl, below_step hb9 hb⟩)); (focus (simp only [Act.put, List.setIfInBounds_toArray, List.set_cons_zero, List.set_cons_succ, i64_w, i32_w]; rfl))) | (apply qb_val; (focus rfl); (focus (intro wq9 _; go_simp; with_reducible rfl)); (focus (simp only [Act.put, List.setIfInBounds_toArray, List.set_cons_zero, List.set_cons_succ, i64_w, i32_w]; rfl))) | (apply qb_val; (focus rfl); (focus (intro wq9 hb9_; have hb9 : Below w13.heap.size w13 wq9 := hb9_; have BK614 := Aside0.mk (blk_below BK614.out hb9); have hc9_614_0 : wq9.cell? ⟨gb614, 0, none⟩ = some (.int .i64 a0_0) := (blk_cell BK614.out 0).trans rfl; have hc9_614_1 : wq9.cell? ⟨gb614, 1, none⟩ = some (.slice A0_1 l0_1.length c0_1) := (blk_cell BK614.out 1).trans rfl; have hc9_614_2 : wq9.cell? ⟨gb614, 2, none⟩ = some (.slice A0_2 l0_2.length c0_2) := (blk_cell BK614.out 2).trans rfl; have hc9_614_3 : wq9.cell? ⟨gb614, 3, none⟩ = some (.slice A0_3 l0_3.length c0_3) := (blk_cell BK614.out 3).trans rfl; have hx618_0 := (hb9.cell (World.block_lt_of_cell? _ _ hx618_0)).trans hx618_0; go_simp; with_reducible rfl)); (focus (simp only [Act.put, List.setIfInBounds_toArray, List.set_cons_zero, List.set_cons_succ, i64_w, i32_w]; rfl))))
              refine qb_nil ?_
              intro w15 hb
              have n0_ := Aside0.mk (blk_below BK614.out hb)
              have n1_ := Aside0.mk (below_step HB.out hb)
              clear BK614
              clear HB
              have BK614 := n0_
              have HB := n1_
              clear n0_ n1_
              clear hb
              try go_wp2
              go_roundg k1
              case measure => have := HK1.out; omega
              case rel => exact ⟨(t619), (wrap64 (x6_1 + 1)), (by first | rfl | (simp; done) | (simp [*]; done)), (by first | rfl | (simp; done) | (simp [*]; done)), H', ⟨by have := HK1.out; omega⟩, ⟨by (with_reducible repeat (first | refine blk_drewN ?_ _ | refine blk_drew ?_ | refine blk_alloc ?_ _)); exact BK614.out⟩, ⟨by repeat (first | (with_reducible first | exact HB.out | apply below_alloc | apply pw_below_drewN | apply below_drew1 | refine below_set ?_ GE614.out) | exact HB.out)⟩⟩
            · replace c11 := Bool.eq_false_iff.mpr c11
              subst c11
              have H1 : (some (-1)) = some r := by rw [if_neg (show ¬ (false = true) by decide)] at H; exact H
              clear H
              have H := H1
              clear H1
              obtain rfl := Option.some.inj H
              try go_wp2
              have p616 : 0 ≤ (x6_1 : Int) := of_decide_eq_true (by first | (with_reducible assumption) | assumption)
              have q616 : x6_1 < (l1.length : Int) := of_decide_eq_true (by first | (with_reducible assumption) | assumption)
              obtain ⟨ad616, e616, hx616_0⟩ := Kd.at_int HR1.out x6_1 p616 q616
              cases e616
              replace hx616_0 := (HB.out.cell (World.block_lt_of_cell? w _ hx616_0)).trans hx616_0
              replace p616 := eq_true p616
              replace q616 := eq_true q616
              refine qb_region (by kernel_rfl) (by kernel_rfl) ?_
              repeat (first | (apply qb_skip; (focus rfl); (focus (simp only [Act.put, List.setIfInBounds_toArray, List.set_cons_zero, List.set_cons_succ, i64_w, i32_w]; rfl))) | (refine qb_callN 23 rfl ?_; apply qb_call 23 rfl (fn := Try.f59) Try.func59 (by kernel_rfl) rfl #[.int .i64 (rd l1 x6_1), .int .i64 0, .int .i64 (wrap64 (a0_0 - 1))] rfl; (focus rfl); (focus (rfl)); (focus (intro wq9 hb9_; have hb9 : Below wr.heap.size wr wq9 := hb9_; skip; (with_reducible refine (spec_l1In.calls (rd l1 x6_1) 0 (wrap64 (a0_0 - 1)) false _ A10.out).mono ?_); rintro e w' ⟨rfl, ⟨nd, rfl⟩⟩; exact ⟨rfl, pw_below_drewN hb9 _⟩)); (focus (simp only [Act.put, List.setIfInBounds_toArray, List.set_cons_zero, List.set_cons_succ, i64_w, i32_w]; rfl))) | (apply qb_val; (focus rfl); (focus (intro wq9 _; go_simp; with_reducible rfl)); (focus (simp only [Act.put, List.setIfInBounds_toArray, List.set_cons_zero, List.set_cons_succ, i64_w, i32_w]; rfl))) | (apply qb_val; (focus rfl); (focus (intro wq9 hb9_; have hb9 : Below wr.heap.size wr wq9 := hb9_; have BK614 := Aside0.mk (blk_below BK614.out hb9); have hc9_614_0 : wq9.cell? ⟨gb614, 0, none⟩ = some (.int .i64 a0_0) := (blk_cell BK614.out 0).trans rfl; have hc9_614_1 : wq9.cell? ⟨gb614, 1, none⟩ = some (.slice A0_1 l0_1.length c0_1) := (blk_cell BK614.out 1).trans rfl; have hc9_614_2 : wq9.cell? ⟨gb614, 2, none⟩ = some (.slice A0_2 l0_2.length c0_2) := (blk_cell BK614.out 2).trans rfl; have hc9_614_3 : wq9.cell? ⟨gb614, 3, none⟩ = some (.slice A0_3 l0_3.length c0_3) := (blk_cell BK614.out 3).trans rfl; have hx616_0 := (hb9.cell (World.block_lt_of_cell? _ _ hx616_0)).trans hx616_0; go_simp; with_reducible rfl)); (focus (simp only [Act.put, List.setIfInBounds_toArray, List.set_cons_zero, List.set_cons_succ, i64_w, i32_w]; rfl))))
              refine qb_nil ?_
              intro w16 hb
              have n0_ := Aside0.mk (blk_below BK614.out hb)
              have n1_ := Aside0.mk (below_step HB.out hb)
              clear BK614
              clear HB
              have BK614 := n0_
              have HB := n1_
              clear n0_ n1_
              clear hb
              try go_wp2
              go_ret
              exact ⟨by first | rfl | (simp [errW_none, errW_some] <;> rfl) | (simp [*, errW_none, errW_some] <;> rfl), by repeat (first | (with_reducible first | exact HB.out | apply below_alloc | apply pw_below_drewN | apply below_drew1 | refine below_set ?_ GE614.out) | exact HB.out)⟩
          · rw [if_neg c9] at H
            exact absurd H (by simp)
        · rw [if_neg c8] at H
          have c8b0 : decide (x6_1 < (l1.length : Int)) = false := decide_eq_false c8
          clear c8
          obtain rfl := Option.some.inj H
          go_wp2
          go_ret
          exact ⟨by first | rfl | (simp [errW_none, errW_some] <;> rfl) | (simp [*, errW_none, errW_some] <;> rfl), by repeat (first | (with_reducible first | exact HB.out | apply below_alloc | apply pw_below_drewN | apply below_drew1 | refine below_set ?_ GE614.out) | exact HB.out)⟩
  · replace c4 := Bool.eq_false_iff.mpr c4
    subst c4
    have H1 : (some (-1)) = some r := by rw [if_neg (show ¬ (false = true) by decide)] at H; exact H
    clear H
    have H := H1
    clear H1
    obtain rfl := Option.some.inj H
    go_enter Try.func34, Try.ntmps34
    go_wp2_with (first | ((with_reducible refine gate_dst (N := 2) rfl ?_); refine box_event ?hg (N := 2) ?hd (cs := #[.int .i64 a0_0, .slice A0_1 l0_1.length c0_1, .slice A0_2 l0_2.length c0_2, .slice A0_3 l0_3.length c0_3]) (t := 28) ?hr ?_; (case hd => rfl); (case hg => rfl); (case hr => first | (go_simp; done) | (go_simp; rfl)); intro gb614 hg w17 hbox hb; have n0_ := Aside0.mk (below_step (by repeat (first | (with_reducible first | exact HB.out | apply below_alloc | apply pw_below_drewN | apply below_drew1) | exact HB.out)) hb); have n1_ := Aside0.mk (hbox); have n2_ := Aside0.mk ((by rw [hg]; exact (below_size (by repeat (first | (with_reducible first | exact HB.out | apply below_alloc | apply pw_below_drewN | apply below_drew1) | exact HB.out))) : w.heap.size ≤ gb614)); have n3_ := Aside0.mk ((by rw [hg]; exact (below_size (by repeat (first | (with_reducible first | exact HB.out | apply below_alloc | apply pw_below_drewN | apply below_drew1) | exact HB.out))) : w.heap.size ≤ gb614)); clear HB; have HB := n0_; have BK614 := n1_; have GW614 := n2_; have GE614 := n3_; clear n0_ n1_ n2_ n3_; clear hb hbox hg; have hcz18_0 : w17.cell? ⟨gb614, 0, none⟩ = some (.int .i64 a0_0) := (blk_cell BK614.out 0).trans rfl; have hcz18_1 : w17.cell? ⟨gb614, 1, none⟩ = some (.slice A0_1 l0_1.length c0_1) := (blk_cell BK614.out 1).trans rfl; have hcz18_2 : w17.cell? ⟨gb614, 2, none⟩ = some (.slice A0_2 l0_2.length c0_2) := (blk_cell BK614.out 2).trans rfl; have hcz18_3 : w17.cell? ⟨gb614, 3, none⟩ = some (.slice A0_3 l0_3.length c0_3) := (blk_cell BK614.out 3).trans rfl; have hfz18_0 := blk_frozen BK614.out 0; have hfz18_1 := blk_frozen BK614.out 1; have hfz18_2 := blk_frozen BK614.out 2; have hfz18_3 := blk_frozen BK614.out 3) | ((with_reducible refine gate_callee (f := 16) rfl ?_); refine goesL_ (some 8) rfl rfl Try.func16 (by kernel_rfl) rfl #[.agg #[.int .i64 a0_0, .slice A0_1 l0_1.length c0_1, .slice A0_2 l0_2.length c0_2, .slice A0_3 l0_3.length c0_3]] rfl (by (try simp only [List.map_toArray, List.map_cons, List.map_nil]); first | done | rfl | (simp only [List.length_drop, List.length_take]; rfl)) ?_; (with_reducible refine (spec_IsSystem.calls k a0_0 _ _ l0_1 _ _ l0_2 _ _ l0_3 false _ ?side1 ?side2 ?side3 ?side4 ?side5 ?side6 A3.out).mono ?_); (case side1 => repeat (first | exact (Kd.C_below HR0_1.out HB.out) | (with_reducible refine Kd.C_alloc ?_ _) | (with_reducible refine Kd.C_drewN ?_ _) | (with_reducible refine Kd.C_drew ?_))); (case side2 => exact HC0_1.out); (case side3 => repeat (first | exact (Kd.C_below HR0_2.out HB.out) | (with_reducible refine Kd.C_alloc ?_ _) | (with_reducible refine Kd.C_drewN ?_ _) | (with_reducible refine Kd.C_drew ?_))); (case side4 => exact HC0_2.out); (case side5 => repeat (first | exact (Kd.C_below HR0_3.out HB.out) | (with_reducible refine Kd.C_alloc ?_ _) | (with_reducible refine Kd.C_drewN ?_ _) | (with_reducible refine Kd.C_drew ?_))); (case side6 => exact HC0_3.out); rintro e w19 ⟨rfl, hb⟩; refine ⟨_, rfl, ?_⟩; have n0_ := Aside0.mk (blk_below (g := gb614) (o := .cells #[.int .i64 a0_0, .slice A0_1 l0_1.length c0_1, .slice A0_2 l0_2.length c0_2, .slice A0_3 l0_3.length c0_3] 28 (0, 0)) (by (with_reducible repeat (first | refine blk_drewN ?_ _ | refine blk_drew ?_ | refine blk_alloc ?_ _)); exact BK614.out) hb); have n1_ := Aside0.mk (below_step (by repeat (first | (with_reducible first | exact HB.out | apply below_alloc | apply pw_below_drewN | apply below_drew1 | refine below_set ?_ GE614.out) | exact HB.out)) hb); clear BK614; clear HB; have BK614 := n0_; have HB := n1_; clear n0_ n1_; (try clear hb); (try clear hb2); (try clear hk); (try clear hi)))
    go_ret
    exact ⟨by first | rfl | (simp [errW_none, errW_some] <;> rfl) | (simp [*, errW_none, errW_some] <;> rfl), by repeat (first | (with_reducible first | exact HB.out | apply below_alloc | apply pw_below_drewN | apply below_drew1 | refine below_set ?_ GE614.out) | exact HB.out)⟩

end Go.Proofs.Ythdbijjkcoafiaa.P
