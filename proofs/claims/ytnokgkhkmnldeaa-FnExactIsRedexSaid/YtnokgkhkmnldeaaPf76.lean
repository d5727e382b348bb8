-- Printed by this session's own program (wip/tools/mkprint.py) out of the translation. Not trusted: Lean checks it.
import Derived.Test.YtnokgkhkmnldeaaP0
namespace Go.Proofs.Ytnokgkhkmnldeaa.P
open Go.RowKit Go.Proofs.YtnokgkhkmnldeaaW.PrintWords Go.Proofs.YtnokgkhkmnldeaaW.PrintLast Go.Proofs.YtnokgkhkmnldeaaW.PrintMore
attribute [local go_sem] max2_int min2_int max_two min_two max_three min_three max_four min_four   -- for this text's walks alone
set_option linter.unusedVariables false
set_option linter.unusedSimpArgs false

/-! ### spec_l4Redex: function 76 -/
def spec_l4Redex.f (a0_0 : Int) (a0_1 : Int) (l0_2 : List Int) (l0_3 : List (S48)) : Option (Bool) := if (l0_3.length : Int) = 0 then (some false) else (if 0 < (l0_3.length : Int) then (if a0_0 = 2 then (if ((rd_T48 l0_3 0).f0) = 1 then (if 1 < (l0_3.length : Int) then (some (((rd_T48 l0_3 1).f0) == 1)) else (none)) else (some false)) else (if a0_0 = 3 then (some (((rd_T48 l0_3 0).f0) == 1)) else (if a0_0 = 10 then (some (((rd_T48 l0_3 0).f0) == 9)) else (if a0_0 = 5 then (some (((rd_T48 l0_3 0).f0) == 4)) else (if a0_0 = 8 then (if ((rd_T48 l0_3 0).f0) = 6 then (some true) else (some (((rd_T48 l0_3 0).f0) == 7))) else (if a0_0 = 12 then (some (((rd_T48 l0_3 0).f0) == 11)) else (some false))))))) else (none))
set_option maxHeartbeats 8000000 in
set_option maxRecDepth 100000 in
theorem spec_l4Redex.calls (a0_0 : Int) (a0_1 : Int) (A0_2 : Option Addr) (c0_2 : Nat) (l0_2 : List Int) (A0_3 : Option Addr) (c0_3 : Nat) (l0_3 : List (S48)) (r : Bool) (w : World) (hr0_2 : Kd.C (Kd.int .i64) w A0_2 l0_2.length l0_2) (hc0_2 : l0_2.length ≤ c0_2) (hr0_3 : Kd.C k48 w A0_3 l0_3.length l0_3) (hc0_3 : l0_3.length ≤ c0_3) (h : spec_l4Redex.f a0_0 a0_1 l0_2 l0_3 = some r) :
    Calls Try.prog 76 #[.agg #[.int .i64 a0_0, .int .i64 a0_1, .slice A0_2 l0_2.length c0_2, .slice A0_3 l0_3.length c0_3]] w fun e w' => e = .returned (.bool r) ∧ Below w.heap.size w w' := by
  have hu48 := Try.underlying48
  have HR0_2 := Aside0.mk hr0_2
  have HC0_2 := Aside0.mk hc0_2
  clear hr0_2 hc0_2
  have HR0_3 := Aside0.mk hr0_3
  have HC0_3 := Aside0.mk hc0_3
  clear hr0_3 hc0_3
  have HB := Aside0.mk (Below.refl w.heap.size w)
  have H : (if (l0_3.length : Int) = 0 then (some false) else (if 0 < (l0_3.length : Int) then (if a0_0 = 2 then (if ((rd_T48 l0_3 0).f0) = 1 then (if 1 < (l0_3.length : Int) then (some (((rd_T48 l0_3 1).f0) == 1)) else (none)) else (some false)) else (if a0_0 = 3 then (some (((rd_T48 l0_3 0).f0) == 1)) else (if a0_0 = 10 then (some (((rd_T48 l0_3 0).f0) == 9)) else (if a0_0 = 5 then (some (((rd_T48 l0_3 0).f0) == 4)) else (if a0_0 = 8 then (if ((rd_T48 l0_3 0).f0) = 6 then (some true) else (some (((rd_T48 l0_3 0).f0) == 7))) else (if a0_0 = 12 then (some (((rd_T48 l0_3 0).f0) == 11)) else (some false))))))) else (none))) = some r := h
  clear h
  have HP2 := Aside0.mk H
  clear H
  go_enter Try.func76, Try.ntmps76
  go_upto_if 7 with (first | ((with_reducible refine gate_dst (N := 1) rfl ?_); refine box_event ?hg (N := 1) ?hd (cs := #[.int .i64 a0_0, .int .i64 a0_1, .slice A0_2 l0_2.length c0_2, .slice A0_3 l0_3.length c0_3]) (t := 48) ?hr ?_; (case hd => rfl); (case hg => rfl); (case hr => first | (go_simp; done) | (go_simp; rfl)); intro gb737 hg w3 hbox hb; have n0_ := Aside0.mk (below_step (by repeat (first | (with_reducible first | exact HB.out | apply below_alloc | apply pw_below_drewN | apply below_drew1) | exact HB.out)) hb); have n1_ := Aside0.mk (hbox); have n2_ := Aside0.mk ((by rw [hg]; exact (below_size (by repeat (first | (with_reducible first | exact HB.out | apply below_alloc | apply pw_below_drewN | apply below_drew1) | exact HB.out))) : w.heap.size ≤ gb737)); have n3_ := Aside0.mk ((by rw [hg]; exact (below_size (by repeat (first | (with_reducible first | exact HB.out | apply below_alloc | apply pw_below_drewN | apply below_drew1) | exact HB.out))) : w.heap.size ≤ gb737)); clear HB; have HB := n0_; have BK737 := n1_; have GW737 := n2_; have GE737 := n3_; clear n0_ n1_ n2_ n3_; clear hb hbox hg; have hcz4_0 : w3.cell? ⟨gb737, 0, none⟩ = some (.int .i64 a0_0) := (blk_cell BK737.out 0).trans rfl; have hcz4_1 : w3.cell? ⟨gb737, 1, none⟩ = some (.int .i64 a0_1) := (blk_cell BK737.out 1).trans rfl; have hcz4_2 : w3.cell? ⟨gb737, 2, none⟩ = some (.slice A0_2 l0_2.length c0_2) := (blk_cell BK737.out 2).trans rfl; have hcz4_3 : w3.cell? ⟨gb737, 3, none⟩ = some (.slice A0_3 l0_3.length c0_3) := (blk_cell BK737.out 3).trans rfl; have hfz4_0 := blk_frozen BK737.out 0; have hfz4_1 := blk_frozen BK737.out 1; have hfz4_2 := blk_frozen BK737.out 2; have hfz4_3 := blk_frozen BK737.out 3))
  have H := HP2.out
  clear HP2
  by_cases c5 : (l0_3.length : Int) = 0
  · rw [if_pos c5] at H
    have c5b0 : ((l0_3.length : Int) == 0) = true := beq_iff_eq.mpr c5
    have c5b1 : ((l0_3.length : Int) != 0) = false := bne_eq_false_iff_eq.mpr c5
    clear c5
    (first | rw [c5b0] | (simp only [i64_w, i32_w]; rw [c5b0]) | skip)
    obtain rfl := Option.some.inj H
    go_wp2
    go_ret
    exact ⟨by first | rfl | (simp [errW_none, errW_some] <;> rfl) | (simp [*, errW_none, errW_some] <;> rfl), by repeat (first | (with_reducible first | exact HB.out | apply below_alloc | apply pw_below_drewN | apply below_drew1 | refine below_set ?_ GE737.out) | exact HB.out)⟩
  · rw [if_neg c5] at H
    have c5b0 : ((l0_3.length : Int) == 0) = false := beq_eq_false_iff_ne.mpr c5
    have c5b1 : ((l0_3.length : Int) != 0) = true := bne_iff_ne.mpr c5
    have c5b2 : ¬ (l0_3 = []) := fun h_ => c5 (by rw [h_]; rfl)
    (first | rw [c5b0] | (simp only [i64_w, i32_w]; rw [c5b0]) | skip)
    by_cases c6 : 0 < (l0_3.length : Int)
    · rw [if_pos c6] at H
      have c6b0 : decide (0 < (l0_3.length : Int)) = true := decide_eq_true c6
      have c6b1 : decide (0 < l0_3.length) = true := decide_eq_true (by omega)
      clear c6
      by_cases c7 : a0_0 = 2
      · rw [if_pos c7] at H
        have c7b0 : (a0_0 == 2) = true := beq_iff_eq.mpr c7
        have c7b1 : (a0_0 != 2) = false := bne_eq_false_iff_eq.mpr c7
        clear c7
        by_cases c8 : ((rd_T48 l0_3 0).f0) = 1
        · rw [if_pos c8] at H
          have c8b0 : (((rd_T48 l0_3 0).f0) == 1) = true := beq_iff_eq.mpr c8
          have c8b1 : (((rd_T48 l0_3 0).f0) != 1) = false := bne_eq_false_iff_eq.mpr c8
          clear c8
          by_cases c9 : 1 < (l0_3.length : Int)
          · rw [if_pos c9] at H
            have c9b0 : decide (1 < (l0_3.length : Int)) = true := decide_eq_true c9
            have c9b1 : decide (1 < l0_3.length) = true := decide_eq_true (by omega)
            clear c9
            obtain rfl := Option.some.inj H
            have hcz10_0 : w3.cell? ⟨gb737, 0, none⟩ = some (.int .i64 a0_0) := (blk_cell BK737.out 0).trans rfl
            have hcz10_1 : w3.cell? ⟨gb737, 1, none⟩ = some (.int .i64 a0_1) := (blk_cell BK737.out 1).trans rfl
            have hcz10_2 : w3.cell? ⟨gb737, 2, none⟩ = some (.slice A0_2 l0_2.length c0_2) := (blk_cell BK737.out 2).trans rfl
            have hcz10_3 : w3.cell? ⟨gb737, 3, none⟩ = some (.slice A0_3 l0_3.length c0_3) := (blk_cell BK737.out 3).trans rfl
            have hfz10_0 := blk_frozen BK737.out 0
            have hfz10_1 := blk_frozen BK737.out 1
            have hfz10_2 := blk_frozen BK737.out 2
            have hfz10_3 := blk_frozen BK737.out 3
            have p738 : 0 ≤ (0 : Int) := (by omega)
            have q738 : 0 < (l0_3.length : Int) := of_decide_eq_true (by first | (with_reducible assumption) | assumption)
            obtain ⟨ad738, A738_2, c738_2, A738_3, c738_3, e738, hx738_0, hx738_1, hx738_2, hx738_3, hl738_2, hi738_2, hl738_3, hi738_3⟩ := at_T48 HR0_3.out 0 p738 q738
            cases e738
            have qi738 : (0 < l0_3.length) = True := eq_true (by omega)
            (try rw [show ((0 : Int)).toNat = 0 from rfl] at hx738_0)
            (try rw [show 0 * 4 = 0 from rfl] at hx738_0)
            (try rw [Addr.add_zero'] at hx738_0)
            (try rw [show ((0 : Int)).toNat = 0 from rfl] at hx738_1)
            (try rw [show 0 * 4 = 0 from rfl] at hx738_1)
            (try rw [Addr.add_zero'] at hx738_1)
            (try rw [show ((0 : Int)).toNat = 0 from rfl] at hx738_2)
            (try rw [show 0 * 4 = 0 from rfl] at hx738_2)
            (try rw [Addr.add_zero'] at hx738_2)
            (try rw [show ((0 : Int)).toNat = 0 from rfl] at hx738_3)
            (try rw [show 0 * 4 = 0 from rfl] at hx738_3)
            (try rw [Addr.add_zero'] at hx738_3)
            replace hx738_0 := (HB.out.cell (World.block_lt_of_cell? w _ hx738_0)).trans hx738_0
            replace hx738_1 := (HB.out.cell (World.block_lt_of_cell? w _ hx738_1)).trans hx738_1
            replace hx738_2 := (HB.out.cell (World.block_lt_of_cell? w _ hx738_2)).trans hx738_2
            replace hx738_3 := (HB.out.cell (World.block_lt_of_cell? w _ hx738_3)).trans hx738_3
            have HR738_2 := Aside0.mk hi738_2
            have HC738_2 := Aside0.mk hl738_2
            clear hi738_2 hl738_2
            have HR738_3 := Aside0.mk hi738_3
            have HC738_3 := Aside0.mk hl738_3
            clear hi738_3 hl738_3
            replace p738 := eq_true p738
            replace q738 := eq_true q738
            have p739 : 0 ≤ (1 : Int) := (by omega)
            have q739 : 1 < (l0_3.length : Int) := of_decide_eq_true (by first | (with_reducible assumption) | assumption)
            obtain ⟨ad739, A739_2, c739_2, A739_3, c739_3, e739, hx739_0, hx739_1, hx739_2, hx739_3, hl739_2, hi739_2, hl739_3, hi739_3⟩ := at_T48 HR0_3.out 1 p739 q739
            obtain rfl : ad738 = ad739 := (by injection e739)
            (try simp only [show (1 : Int).toNat = 1 from rfl, Nat.reduceMul, Nat.reduceEqDiff, Go.Addr.add, ↓reduceIte] at hx739_0)
            (try simp only [show (1 : Int).toNat = 1 from rfl, Nat.reduceMul, Nat.reduceEqDiff, Go.Addr.add, ↓reduceIte] at hx739_1)
            (try simp only [show (1 : Int).toNat = 1 from rfl, Nat.reduceMul, Nat.reduceEqDiff, Go.Addr.add, ↓reduceIte] at hx739_2)
            (try simp only [show (1 : Int).toNat = 1 from rfl, Nat.reduceMul, Nat.reduceEqDiff, Go.Addr.add, ↓reduceIte] at hx739_3)
            have qi739 : (1 < l0_3.length) = True := eq_true (by omega)
            (try rw [show ((1 : Int)).toNat = 1 from rfl] at hx739_0)
            (try rw [show 1 * 4 = 4 from rfl] at hx739_0)
            (try rw [show ((1 : Int)).toNat = 1 from rfl] at hx739_1)
            (try rw [show 1 * 4 = 4 from rfl] at hx739_1)
            (try rw [show ((1 : Int)).toNat = 1 from rfl] at hx739_2)
            (try rw [show 1 * 4 = 4 from rfl] at hx739_2)
            (try rw [show ((1 : Int)).toNat = 1 from rfl] at hx739_3)
            (try rw [show 1 * 4 = 4 from rfl] at hx739_3)
            replace hx739_0 := (HB.out.cell (World.block_lt_of_cell? w _ hx739_0)).trans hx739_0
            replace hx739_1 := (HB.out.cell (World.block_lt_of_cell? w _ hx739_1)).trans hx739_1
            replace hx739_2 := (HB.out.cell (World.block_lt_of_cell? w _ hx739_2)).trans hx739_2
            replace hx739_3 := (HB.out.cell (World.block_lt_of_cell? w _ hx739_3)).trans hx739_3
            have HR739_2 := Aside0.mk hi739_2
            have HC739_2 := Aside0.mk hl739_2
            clear hi739_2 hl739_2
            have HR739_3 := Aside0.mk hi739_3
            have HC739_3 := Aside0.mk hl739_3
            clear hi739_3 hl739_3
            replace p739 := eq_true p739
            replace q739 := eq_true q739
            go_wp2
            go_ret
            exact ⟨by first | rfl | (simp [errW_none, errW_some] <;> rfl) | (simp [*, errW_none, errW_some] <;> rfl), by repeat (first | (with_reducible first | exact HB.out | apply below_alloc | apply pw_below_drewN | apply below_drew1 | refine below_set ?_ GE737.out) | exact HB.out)⟩
          · rw [if_neg c9] at H
            exact absurd H (by simp)
        · rw [if_neg c8] at H
          have c8b0 : (((rd_T48 l0_3 0).f0) == 1) = false := beq_eq_false_iff_ne.mpr c8
          have c8b1 : (((rd_T48 l0_3 0).f0) != 1) = true := bne_iff_ne.mpr c8
          obtain rfl := Option.some.inj H
          have hcz11_0 : w3.cell? ⟨gb737, 0, none⟩ = some (.int .i64 a0_0) := (blk_cell BK737.out 0).trans rfl
          have hcz11_1 : w3.cell? ⟨gb737, 1, none⟩ = some (.int .i64 a0_1) := (blk_cell BK737.out 1).trans rfl
          have hcz11_2 : w3.cell? ⟨gb737, 2, none⟩ = some (.slice A0_2 l0_2.length c0_2) := (blk_cell BK737.out 2).trans rfl
          have hcz11_3 : w3.cell? ⟨gb737, 3, none⟩ = some (.slice A0_3 l0_3.length c0_3) := (blk_cell BK737.out 3).trans rfl
          have hfz11_0 := blk_frozen BK737.out 0
          have hfz11_1 := blk_frozen BK737.out 1
          have hfz11_2 := blk_frozen BK737.out 2
          have hfz11_3 := blk_frozen BK737.out 3
          have p738 : 0 ≤ (0 : Int) := (by omega)
          have q738 : 0 < (l0_3.length : Int) := of_decide_eq_true (by first | (with_reducible assumption) | assumption)
          obtain ⟨ad738, A738_2, c738_2, A738_3, c738_3, e738, hx738_0, hx738_1, hx738_2, hx738_3, hl738_2, hi738_2, hl738_3, hi738_3⟩ := at_T48 HR0_3.out 0 p738 q738
          cases e738
          have qi738 : (0 < l0_3.length) = True := eq_true (by omega)
          (try rw [show ((0 : Int)).toNat = 0 from rfl] at hx738_0)
          (try rw [show 0 * 4 = 0 from rfl] at hx738_0)
          (try rw [Addr.add_zero'] at hx738_0)
          (try rw [show ((0 : Int)).toNat = 0 from rfl] at hx738_1)
          (try rw [show 0 * 4 = 0 from rfl] at hx738_1)
          (try rw [Addr.add_zero'] at hx738_1)
          (try rw [show ((0 : Int)).toNat = 0 from rfl] at hx738_2)
          (try rw [show 0 * 4 = 0 from rfl] at hx738_2)
          (try rw [Addr.add_zero'] at hx738_2)
          (try rw [show ((0 : Int)).toNat = 0 from rfl] at hx738_3)
          (try rw [show 0 * 4 = 0 from rfl] at hx738_3)
          (try rw [Addr.add_zero'] at hx738_3)
          replace hx738_0 := (HB.out.cell (World.block_lt_of_cell? w _ hx738_0)).trans hx738_0
          replace hx738_1 := (HB.out.cell (World.block_lt_of_cell? w _ hx738_1)).trans hx738_1
          replace hx738_2 := (HB.out.cell (World.block_lt_of_cell? w _ hx738_2)).trans hx738_2
          replace hx738_3 := (HB.out.cell (World.block_lt_of_cell? w _ hx738_3)).trans hx738_3
          have HR738_2 := Aside0.mk hi738_2
          have HC738_2 := Aside0.mk hl738_2
          clear hi738_2 hl738_2
          have HR738_3 := Aside0.mk hi738_3
          have HC738_3 := Aside0.mk hl738_3
          clear hi738_3 hl738_3
          replace p738 := eq_true p738
          replace q738 := eq_true q738
          go_wp2
          go_ret
          exact ⟨by first | rfl | (simp [errW_none, errW_some] <;> rfl) | (simp [*, errW_none, errW_some] <;> rfl), by repeat (first | (with_reducible first | exact HB.out | apply below_alloc | apply pw_below_drewN | apply below_drew1 | refine below_set ?_ GE737.out) | exact HB.out)⟩
      · rw [if_neg c7] at H
        have c7b0 : (a0_0 == 2) = false := beq_eq_false_iff_ne.mpr c7
        have c7b1 : (a0_0 != 2) = true := bne_iff_ne.mpr c7
        by_cases c12 : a0_0 = 3
        · rw [if_pos c12] at H
          have c12b0 : (a0_0 == 3) = true := beq_iff_eq.mpr c12
          have c12b1 : (a0_0 != 3) = false := bne_eq_false_iff_eq.mpr c12
          clear c12
          obtain rfl := Option.some.inj H
          have hcz13_0 : w3.cell? ⟨gb737, 0, none⟩ = some (.int .i64 a0_0) := (blk_cell BK737.out 0).trans rfl
          have hcz13_1 : w3.cell? ⟨gb737, 1, none⟩ = some (.int .i64 a0_1) := (blk_cell BK737.out 1).trans rfl
          have hcz13_2 : w3.cell? ⟨gb737, 2, none⟩ = some (.slice A0_2 l0_2.length c0_2) := (blk_cell BK737.out 2).trans rfl
          have hcz13_3 : w3.cell? ⟨gb737, 3, none⟩ = some (.slice A0_3 l0_3.length c0_3) := (blk_cell BK737.out 3).trans rfl
          have hfz13_0 := blk_frozen BK737.out 0
          have hfz13_1 := blk_frozen BK737.out 1
          have hfz13_2 := blk_frozen BK737.out 2
          have hfz13_3 := blk_frozen BK737.out 3
          have p738 : 0 ≤ (0 : Int) := (by omega)
          have q738 : 0 < (l0_3.length : Int) := of_decide_eq_true (by first | (with_reducible assumption) | assumption)
          obtain ⟨ad738, A738_2, c738_2, A738_3, c738_3, e738, hx738_0, hx738_1, hx738_2, hx738_3, hl738_2, hi738_2, hl738_3, hi738_3⟩ := at_T48 HR0_3.out 0 p738 q738
          cases e738
          have qi738 : (0 < l0_3.length) = True := eq_true (by omega)
          (try rw [show ((0 : Int)).toNat = 0 from rfl] at hx738_0)
          (try rw [show 0 * 4 = 0 from rfl] at hx738_0)
          (try rw [Addr.add_zero'] at hx738_0)
          (try rw [show ((0 : Int)).toNat = 0 from rfl] at hx738_1)
          (try rw [show 0 * 4 = 0 from rfl] at hx738_1)
          (try rw [Addr.add_zero'] at hx738_1)
          (try rw [show ((0 : Int)).toNat = 0 from rfl] at hx738_2)
          (try rw [show 0 * 4 = 0 from rfl] at hx738_2)
          (try rw [Addr.add_zero'] at hx738_2)
          (try rw [show ((0 : Int)).toNat = 0 from rfl] at hx738_3)
          (try rw [show 0 * 4 = 0 from rfl] at hx738_3)
          (try rw [Addr.add_zero'] at hx738_3)
          replace hx738_0 := (HB.out.cell (World.block_lt_of_cell? w _ hx738_0)).trans hx738_0
          replace hx738_1 := (HB.out.cell (World.block_lt_of_cell? w _ hx738_1)).trans hx738_1
          replace hx738_2 := (HB.out.cell (World.block_lt_of_cell? w _ hx738_2)).trans hx738_2
          replace hx738_3 := (HB.out.cell (World.block_lt_of_cell? w _ hx738_3)).trans hx738_3
          have HR738_2 := Aside0.mk hi738_2
          have HC738_2 := Aside0.mk hl738_2
          clear hi738_2 hl738_2
          have HR738_3 := Aside0.mk hi738_3
          have HC738_3 := Aside0.mk hl738_3
          clear hi738_3 hl738_3
          replace p738 := eq_true p738
          replace q738 := eq_true q738
          go_wp2
          go_ret
          exact ⟨by first | rfl | (simp [errW_none, errW_some] <;> rfl) | (simp [*, errW_none, errW_some] <;> rfl), by repeat (first | (with_reducible first | exact HB.out | apply below_alloc | apply pw_below_drewN | apply below_drew1 | refine below_set ?_ GE737.out) | exact HB.out)⟩
        · rw [if_neg c12] at H
          have c12b0 : (a0_0 == 3) = false := beq_eq_false_iff_ne.mpr c12
          have c12b1 : (a0_0 != 3) = true := bne_iff_ne.mpr c12
          by_cases c14 : a0_0 = 10
          · rw [if_pos c14] at H
            have c14b0 : (a0_0 == 10) = true := beq_iff_eq.mpr c14
            have c14b1 : (a0_0 != 10) = false := bne_eq_false_iff_eq.mpr c14
            clear c14
            obtain rfl := Option.some.inj H
            have hcz15_0 : w3.cell? ⟨gb737, 0, none⟩ = some (.int .i64 a0_0) := (blk_cell BK737.out 0).trans rfl
            have hcz15_1 : w3.cell? ⟨gb737, 1, none⟩ = some (.int .i64 a0_1) := (blk_cell BK737.out 1).trans rfl
            have hcz15_2 : w3.cell? ⟨gb737, 2, none⟩ = some (.slice A0_2 l0_2.length c0_2) := (blk_cell BK737.out 2).trans rfl
            have hcz15_3 : w3.cell? ⟨gb737, 3, none⟩ = some (.slice A0_3 l0_3.length c0_3) := (blk_cell BK737.out 3).trans rfl
            have hfz15_0 := blk_frozen BK737.out 0
            have hfz15_1 := blk_frozen BK737.out 1
            have hfz15_2 := blk_frozen BK737.out 2
            have hfz15_3 := blk_frozen BK737.out 3
            have p738 : 0 ≤ (0 : Int) := (by omega)
            have q738 : 0 < (l0_3.length : Int) := of_decide_eq_true (by first | (with_reducible assumption) | assumption)
            obtain ⟨ad738, A738_2, c738_2, A738_3, c738_3, e738, hx738_0, hx738_1, hx738_2, hx738_3, hl738_2, hi738_2, hl738_3, hi738_3⟩ := at_T48 HR0_3.out 0 p738 q738
            cases e738
            have qi738 : (0 < l0_3.length) = True := eq_true (by omega)
            (try rw [show ((0 : Int)).toNat = 0 from rfl] at hx738_0)
            (try rw [show 0 * 4 = 0 from rfl] at hx738_0)
            (try rw [Addr.add_zero'] at hx738_0)
            (try rw [show ((0 : Int)).toNat = 0 from rfl] at hx738_1)
            (try rw [show 0 * 4 = 0 from rfl] at hx738_1)
            (try rw [Addr.add_zero'] at hx738_1)
            (try rw [show ((0 : Int)).toNat = 0 from rfl] at hx738_2)
            (try rw [show 0 * 4 = 0 from rfl] at hx738_2)
            (try rw [Addr.add_zero'] at hx738_2)
            (try rw [show ((0 : Int)).toNat = 0 from rfl] at hx738_3)
            (try rw [show 0 * 4 = 0 from rfl] at hx738_3)
            (try rw [Addr.add_zero'] at hx738_3)
            replace hx738_0 := (HB.out.cell (World.block_lt_of_cell? w _ hx738_0)).trans hx738_0
            replace hx738_1 := (HB.out.cell (World.block_lt_of_cell? w _ hx738_1)).trans hx738_1
            replace hx738_2 := (HB.out.cell (World.block_lt_of_cell? w _ hx738_2)).trans hx738_2
            replace hx738_3 := (HB.out.cell (World.block_lt_of_cell? w _ hx738_3)).trans hx738_3
            have HR738_2 := Aside0.mk hi738_2
            have HC738_2 := Aside0.mk hl738_2
            clear hi738_2 hl738_2
            have HR738_3 := Aside0.mk hi738_3
            have HC738_3 := Aside0.mk hl738_3
            clear hi738_3 hl738_3
            replace p738 := eq_true p738
            replace q738 := eq_true q738
            go_wp2
            go_ret
            exact ⟨by first | rfl | (simp [errW_none, errW_some] <;> rfl) | (simp [*, errW_none, errW_some] <;> rfl), by repeat (first | (with_reducible first | exact HB.out | apply below_alloc | apply pw_below_drewN | apply below_drew1 | refine below_set ?_ GE737.out) | exact HB.out)⟩
          · rw [if_neg c14] at H
            have c14b0 : (a0_0 == 10) = false := beq_eq_false_iff_ne.mpr c14
            have c14b1 : (a0_0 != 10) = true := bne_iff_ne.mpr c14
            by_cases c16 : a0_0 = 5
            · rw [if_pos c16] at H
              have c16b0 : (a0_0 == 5) = true := beq_iff_eq.mpr c16
              have c16b1 : (a0_0 != 5) = false := bne_eq_false_iff_eq.mpr c16
              clear c16
              obtain rfl := Option.some.inj H
              have hcz17_0 : w3.cell? ⟨gb737, 0, none⟩ = some (.int .i64 a0_0) := (blk_cell BK737.out 0).trans rfl
              have hcz17_1 : w3.cell? ⟨gb737, 1, none⟩ = some (.int .i64 a0_1) := (blk_cell BK737.out 1).trans rfl
              have hcz17_2 : w3.cell? ⟨gb737, 2, none⟩ = some (.slice A0_2 l0_2.length c0_2) := (blk_cell BK737.out 2).trans rfl
              have hcz17_3 : w3.cell? ⟨gb737, 3, none⟩ = some (.slice A0_3 l0_3.length c0_3) := (blk_cell BK737.out 3).trans rfl
              have hfz17_0 := blk_frozen BK737.out 0
              have hfz17_1 := blk_frozen BK737.out 1
              have hfz17_2 := blk_frozen BK737.out 2
              have hfz17_3 := blk_frozen BK737.out 3
              have p738 : 0 ≤ (0 : Int) := (by omega)
              have q738 : 0 < (l0_3.length : Int) := of_decide_eq_true (by first | (with_reducible assumption) | assumption)
              obtain ⟨ad738, A738_2, c738_2, A738_3, c738_3, e738, hx738_0, hx738_1, hx738_2, hx738_3, hl738_2, hi738_2, hl738_3, hi738_3⟩ := at_T48 HR0_3.out 0 p738 q738
              cases e738
              have qi738 : (0 < l0_3.length) = True := eq_true (by omega)
              (try rw [show ((0 : Int)).toNat = 0 from rfl] at hx738_0)
              (try rw [show 0 * 4 = 0 from rfl] at hx738_0)
              (try rw [Addr.add_zero'] at hx738_0)
              (try rw [show ((0 : Int)).toNat = 0 from rfl] at hx738_1)
              (try rw [show 0 * 4 = 0 from rfl] at hx738_1)
              (try rw [Addr.add_zero'] at hx738_1)
              (try rw [show ((0 : Int)).toNat = 0 from rfl] at hx738_2)
              (try rw [show 0 * 4 = 0 from rfl] at hx738_2)
              (try rw [Addr.add_zero'] at hx738_2)
              (try rw [show ((0 : Int)).toNat = 0 from rfl] at hx738_3)
              (try rw [show 0 * 4 = 0 from rfl] at hx738_3)
              (try rw [Addr.add_zero'] at hx738_3)
              replace hx738_0 := (HB.out.cell (World.block_lt_of_cell? w _ hx738_0)).trans hx738_0
              replace hx738_1 := (HB.out.cell (World.block_lt_of_cell? w _ hx738_1)).trans hx738_1
              replace hx738_2 := (HB.out.cell (World.block_lt_of_cell? w _ hx738_2)).trans hx738_2
              replace hx738_3 := (HB.out.cell (World.block_lt_of_cell? w _ hx738_3)).trans hx738_3
              have HR738_2 := Aside0.mk hi738_2
              have HC738_2 := Aside0.mk hl738_2
              clear hi738_2 hl738_2
              have HR738_3 := Aside0.mk hi738_3
              have HC738_3 := Aside0.mk hl738_3
              clear hi738_3 hl738_3
              replace p738 := eq_true p738
              replace q738 := eq_true q738
              go_wp2
              go_ret
              exact ⟨by first | rfl | (simp [errW_none, errW_some] <;> rfl) | (simp [*, errW_none, errW_some] <;> rfl), by repeat (first | (with_reducible first | exact HB.out | apply below_alloc | apply pw_below_drewN | apply below_drew1 | refine below_set ?_ GE737.out) | exact HB.out)⟩
            · rw [if_neg c16] at H
              have c16b0 : (a0_0 == 5) = false := beq_eq_false_iff_ne.mpr c16
              have c16b1 : (a0_0 != 5) = true := bne_iff_ne.mpr c16
              by_cases c18 : a0_0 = 8
              · rw [if_pos c18] at H
                have c18b0 : (a0_0 == 8) = true := beq_iff_eq.mpr c18
                have c18b1 : (a0_0 != 8) = false := bne_eq_false_iff_eq.mpr c18
                clear c18
                by_cases c19 : ((rd_T48 l0_3 0).f0) = 6
                · rw [if_pos c19] at H
                  have c19b0 : (((rd_T48 l0_3 0).f0) == 6) = true := beq_iff_eq.mpr c19
                  have c19b1 : (((rd_T48 l0_3 0).f0) != 6) = false := bne_eq_false_iff_eq.mpr c19
                  clear c19
                  obtain rfl := Option.some.inj H
                  have hcz20_0 : w3.cell? ⟨gb737, 0, none⟩ = some (.int .i64 a0_0) := (blk_cell BK737.out 0).trans rfl
                  have hcz20_1 : w3.cell? ⟨gb737, 1, none⟩ = some (.int .i64 a0_1) := (blk_cell BK737.out 1).trans rfl
                  have hcz20_2 : w3.cell? ⟨gb737, 2, none⟩ = some (.slice A0_2 l0_2.length c0_2) := (blk_cell BK737.out 2).trans rfl
                  have hcz20_3 : w3.cell? ⟨gb737, 3, none⟩ = some (.slice A0_3 l0_3.length c0_3) := (blk_cell BK737.out 3).trans rfl
                  have hfz20_0 := blk_frozen BK737.out 0
                  have hfz20_1 := blk_frozen BK737.out 1
                  have hfz20_2 := blk_frozen BK737.out 2
                  have hfz20_3 := blk_frozen BK737.out 3
                  have p738 : 0 ≤ (0 : Int) := (by omega)
                  have q738 : 0 < (l0_3.length : Int) := of_decide_eq_true (by first | (with_reducible assumption) | assumption)
                  obtain ⟨ad738, A738_2, c738_2, A738_3, c738_3, e738, hx738_0, hx738_1, hx738_2, hx738_3, hl738_2, hi738_2, hl738_3, hi738_3⟩ := at_T48 HR0_3.out 0 p738 q738
                  cases e738
                  have qi738 : (0 < l0_3.length) = True := eq_true (by omega)
                  (try rw [show ((0 : Int)).toNat = 0 from rfl] at hx738_0)
                  (try rw [show 0 * 4 = 0 from rfl] at hx738_0)
                  (try rw [Addr.add_zero'] at hx738_0)
                  (try rw [show ((0 : Int)).toNat = 0 from rfl] at hx738_1)
                  (try rw [show 0 * 4 = 0 from rfl] at hx738_1)
                  (try rw [Addr.add_zero'] at hx738_1)
                  (try rw [show ((0 : Int)).toNat = 0 from rfl] at hx738_2)
                  (try rw [show 0 * 4 = 0 from rfl] at hx738_2)
                  (try rw [Addr.add_zero'] at hx738_2)
                  (try rw [show ((0 : Int)).toNat = 0 from rfl] at hx738_3)
                  (try rw [show 0 * 4 = 0 from rfl] at hx738_3)
                  (try rw [Addr.add_zero'] at hx738_3)
                  replace hx738_0 := (HB.out.cell (World.block_lt_of_cell? w _ hx738_0)).trans hx738_0
                  replace hx738_1 := (HB.out.cell (World.block_lt_of_cell? w _ hx738_1)).trans hx738_1
                  replace hx738_2 := (HB.out.cell (World.block_lt_of_cell? w _ hx738_2)).trans hx738_2
                  replace hx738_3 := (HB.out.cell (World.block_lt_of_cell? w _ hx738_3)).trans hx738_3
                  have HR738_2 := Aside0.mk hi738_2
                  have HC738_2 := Aside0.mk hl738_2
                  clear hi738_2 hl738_2
                  have HR738_3 := Aside0.mk hi738_3
                  have HC738_3 := Aside0.mk hl738_3
                  clear hi738_3 hl738_3
                  replace p738 := eq_true p738
                  replace q738 := eq_true q738
                  go_wp2
                  go_ret
                  exact ⟨by first | rfl | (simp [errW_none, errW_some] <;> rfl) | (simp [*, errW_none, errW_some] <;> rfl), by repeat (first | (with_reducible first | exact HB.out | apply below_alloc | apply pw_below_drewN | apply below_drew1 | refine below_set ?_ GE737.out) | exact HB.out)⟩
                · rw [if_neg c19] at H
                  have c19b0 : (((rd_T48 l0_3 0).f0) == 6) = false := beq_eq_false_iff_ne.mpr c19
                  have c19b1 : (((rd_T48 l0_3 0).f0) != 6) = true := bne_iff_ne.mpr c19
                  obtain rfl := Option.some.inj H
                  have hcz21_0 : w3.cell? ⟨gb737, 0, none⟩ = some (.int .i64 a0_0) := (blk_cell BK737.out 0).trans rfl
                  have hcz21_1 : w3.cell? ⟨gb737, 1, none⟩ = some (.int .i64 a0_1) := (blk_cell BK737.out 1).trans rfl
                  have hcz21_2 : w3.cell? ⟨gb737, 2, none⟩ = some (.slice A0_2 l0_2.length c0_2) := (blk_cell BK737.out 2).trans rfl
                  have hcz21_3 : w3.cell? ⟨gb737, 3, none⟩ = some (.slice A0_3 l0_3.length c0_3) := (blk_cell BK737.out 3).trans rfl
                  have hfz21_0 := blk_frozen BK737.out 0
                  have hfz21_1 := blk_frozen BK737.out 1
                  have hfz21_2 := blk_frozen BK737.out 2
                  have hfz21_3 := blk_frozen BK737.out 3
                  have p738 : 0 ≤ (0 : Int) := (by omega)
                  have q738 : 0 < (l0_3.length : Int) := of_decide_eq_true (by first | (with_reducible assumption) | assumption)
                  obtain ⟨ad738, A738_2, c738_2, A738_3, c738_3, e738, hx738_0, hx738_1, hx738_2, hx738_3, hl738_2, hi738_2, hl738_3, hi738_3⟩ := at_T48 HR0_3.out 0 p738 q738
                  cases e738
                  have qi738 : (0 < l0_3.length) = True := eq_true (by omega)
                  (try rw [show ((0 : Int)).toNat = 0 from rfl] at hx738_0)
                  (try rw [show 0 * 4 = 0 from rfl] at hx738_0)
                  (try rw [Addr.add_zero'] at hx738_0)
                  (try rw [show ((0 : Int)).toNat = 0 from rfl] at hx738_1)
                  (try rw [show 0 * 4 = 0 from rfl] at hx738_1)
                  (try rw [Addr.add_zero'] at hx738_1)
                  (try rw [show ((0 : Int)).toNat = 0 from rfl] at hx738_2)
                  (try rw [show 0 * 4 = 0 from rfl] at hx738_2)
                  (try rw [Addr.add_zero'] at hx738_2)
                  (try rw [show ((0 : Int)).toNat = 0 from rfl] at hx738_3)
                  (try rw [show 0 * 4 = 0 from rfl] at hx738_3)
                  (try rw [Addr.add_zero'] at hx738_3)
                  replace hx738_0 := (HB.out.cell (World.block_lt_of_cell? w _ hx738_0)).trans hx738_0
                  replace hx738_1 := (HB.out.cell (World.block_lt_of_cell? w _ hx738_1)).trans hx738_1
                  replace hx738_2 := (HB.out.cell (World.block_lt_of_cell? w _ hx738_2)).trans hx738_2
                  replace hx738_3 := (HB.out.cell (World.block_lt_of_cell? w _ hx738_3)).trans hx738_3
                  have HR738_2 := Aside0.mk hi738_2
                  have HC738_2 := Aside0.mk hl738_2
                  clear hi738_2 hl738_2
                  have HR738_3 := Aside0.mk hi738_3
                  have HC738_3 := Aside0.mk hl738_3
                  clear hi738_3 hl738_3
                  replace p738 := eq_true p738
                  replace q738 := eq_true q738
                  go_wp2
                  go_ret
                  exact ⟨by first | rfl | (simp [errW_none, errW_some] <;> rfl) | (simp [*, errW_none, errW_some] <;> rfl), by repeat (first | (with_reducible first | exact HB.out | apply below_alloc | apply pw_below_drewN | apply below_drew1 | refine below_set ?_ GE737.out) | exact HB.out)⟩
              · rw [if_neg c18] at H
                have c18b0 : (a0_0 == 8) = false := beq_eq_false_iff_ne.mpr c18
                have c18b1 : (a0_0 != 8) = true := bne_iff_ne.mpr c18
                by_cases c22 : a0_0 = 12
                · rw [if_pos c22] at H
                  have c22b0 : (a0_0 == 12) = true := beq_iff_eq.mpr c22
                  have c22b1 : (a0_0 != 12) = false := bne_eq_false_iff_eq.mpr c22
                  clear c22
                  obtain rfl := Option.some.inj H
                  have hcz23_0 : w3.cell? ⟨gb737, 0, none⟩ = some (.int .i64 a0_0) := (blk_cell BK737.out 0).trans rfl
                  have hcz23_1 : w3.cell? ⟨gb737, 1, none⟩ = some (.int .i64 a0_1) := (blk_cell BK737.out 1).trans rfl
                  have hcz23_2 : w3.cell? ⟨gb737, 2, none⟩ = some (.slice A0_2 l0_2.length c0_2) := (blk_cell BK737.out 2).trans rfl
                  have hcz23_3 : w3.cell? ⟨gb737, 3, none⟩ = some (.slice A0_3 l0_3.length c0_3) := (blk_cell BK737.out 3).trans rfl
                  have hfz23_0 := blk_frozen BK737.out 0
                  have hfz23_1 := blk_frozen BK737.out 1
                  have hfz23_2 := blk_frozen BK737.out 2
                  have hfz23_3 := blk_frozen BK737.out 3
                  have p738 : 0 ≤ (0 : Int) := (by omega)
                  have q738 : 0 < (l0_3.length : Int) := of_decide_eq_true (by first | (with_reducible assumption) | assumption)
                  obtain ⟨ad738, A738_2, c738_2, A738_3, c738_3, e738, hx738_0, hx738_1, hx738_2, hx738_3, hl738_2, hi738_2, hl738_3, hi738_3⟩ := at_T48 HR0_3.out 0 p738 q738
                  cases e738
                  have qi738 : (0 < l0_3.length) = True := eq_true (by omega)
                  (try rw [show ((0 : Int)).toNat = 0 from rfl] at hx738_0)
                  (try rw [show 0 * 4 = 0 from rfl] at hx738_0)
                  (try rw [Addr.add_zero'] at hx738_0)
                  (try rw [show ((0 : Int)).toNat = 0 from rfl] at hx738_1)
                  (try rw [show 0 * 4 = 0 from rfl] at hx738_1)
                  (try rw [Addr.add_zero'] at hx738_1)
                  (try rw [show ((0 : Int)).toNat = 0 from rfl] at hx738_2)
                  (try rw [show 0 * 4 = 0 from rfl] at hx738_2)
                  (try rw [Addr.add_zero'] at hx738_2)
                  (try rw [show ((0 : Int)).toNat = 0 from rfl] at hx738_3)
                  (try rw [show 0 * 4 = 0 from rfl] at hx738_3)
                  (try rw [Addr.add_zero'] at hx738_3)
                  replace hx738_0 := (HB.out.cell (World.block_lt_of_cell? w _ hx738_0)).trans hx738_0
                  replace hx738_1 := (HB.out.cell (World.block_lt_of_cell? w _ hx738_1)).trans hx738_1
                  replace hx738_2 := (HB.out.cell (World.block_lt_of_cell? w _ hx738_2)).trans hx738_2
                  replace hx738_3 := (HB.out.cell (World.block_lt_of_cell? w _ hx738_3)).trans hx738_3
                  have HR738_2 := Aside0.mk hi738_2
                  have HC738_2 := Aside0.mk hl738_2
                  clear hi738_2 hl738_2
                  have HR738_3 := Aside0.mk hi738_3
                  have HC738_3 := Aside0.mk hl738_3
                  clear hi738_3 hl738_3
                  replace p738 := eq_true p738
                  replace q738 := eq_true q738
                  go_wp2
                  go_ret
                  exact ⟨by first | rfl | (simp [errW_none, errW_some] <;> rfl) | (simp [*, errW_none, errW_some] <;> rfl), by repeat (first | (with_reducible first | exact HB.out | apply below_alloc | apply pw_below_drewN | apply below_drew1 | refine below_set ?_ GE737.out) | exact HB.out)⟩
                · rw [if_neg c22] at H
                  have c22b0 : (a0_0 == 12) = false := beq_eq_false_iff_ne.mpr c22
                  have c22b1 : (a0_0 != 12) = true := bne_iff_ne.mpr c22
                  obtain rfl := Option.some.inj H
                  have hcz24_0 : w3.cell? ⟨gb737, 0, none⟩ = some (.int .i64 a0_0) := (blk_cell BK737.out 0).trans rfl
                  have hcz24_1 : w3.cell? ⟨gb737, 1, none⟩ = some (.int .i64 a0_1) := (blk_cell BK737.out 1).trans rfl
                  have hcz24_2 : w3.cell? ⟨gb737, 2, none⟩ = some (.slice A0_2 l0_2.length c0_2) := (blk_cell BK737.out 2).trans rfl
                  have hcz24_3 : w3.cell? ⟨gb737, 3, none⟩ = some (.slice A0_3 l0_3.length c0_3) := (blk_cell BK737.out 3).trans rfl
                  have hfz24_0 := blk_frozen BK737.out 0
                  have hfz24_1 := blk_frozen BK737.out 1
                  have hfz24_2 := blk_frozen BK737.out 2
                  have hfz24_3 := blk_frozen BK737.out 3
                  have p738 : 0 ≤ (0 : Int) := (by omega)
                  have q738 : 0 < (l0_3.length : Int) := of_decide_eq_true (by first | (with_reducible assumption) | assumption)
                  obtain ⟨ad738, A738_2, c738_2, A738_3, c738_3, e738, hx738_0, hx738_1, hx738_2, hx738_3, hl738_2, hi738_2, hl738_3, hi738_3⟩ := at_T48 HR0_3.out 0 p738 q738
                  cases e738
                  have qi738 : (0 < l0_3.length) = True := eq_true (by omega)
                  (try rw [show ((0 : Int)).toNat = 0 from rfl] at hx738_0)
                  (try rw [show 0 * 4 = 0 from rfl] at hx738_0)
                  (try rw [Addr.add_zero'] at hx738_0)
                  (try rw [show ((0 : Int)).toNat = 0 from rfl] at hx738_1)
                  (try rw [show 0 * 4 = 0 from rfl] at hx738_1)
                  (try rw [Addr.add_zero'] at hx738_1)
                  (try rw [show ((0 : Int)).toNat = 0 from rfl] at hx738_2)
                  (try rw [show 0 * 4 = 0 from rfl] at hx738_2)
                  (try rw [Addr.add_zero'] at hx738_2)
                  (try rw [show ((0 : Int)).toNat = 0 from rfl] at hx738_3)
                  (try rw [show 0 * 4 = 0 from rfl] at hx738_3)
                  (try rw [Addr.add_zero'] at hx738_3)
                  replace hx738_0 := (HB.out.cell (World.block_lt_of_cell? w _ hx738_0)).trans hx738_0
                  replace hx738_1 := (HB.out.cell (World.block_lt_of_cell? w _ hx738_1)).trans hx738_1
                  replace hx738_2 := (HB.out.cell (World.block_lt_of_cell? w _ hx738_2)).trans hx738_2
                  replace hx738_3 := (HB.out.cell (World.block_lt_of_cell? w _ hx738_3)).trans hx738_3
                  have HR738_2 := Aside0.mk hi738_2
                  have HC738_2 := Aside0.mk hl738_2
                  clear hi738_2 hl738_2
                  have HR738_3 := Aside0.mk hi738_3
                  have HC738_3 := Aside0.mk hl738_3
                  clear hi738_3 hl738_3
                  replace p738 := eq_true p738
                  replace q738 := eq_true q738
                  go_wp2
                  go_ret
                  exact ⟨by first | rfl | (simp [errW_none, errW_some] <;> rfl) | (simp [*, errW_none, errW_some] <;> rfl), by repeat (first | (with_reducible first | exact HB.out | apply below_alloc | apply pw_below_drewN | apply below_drew1 | refine below_set ?_ GE737.out) | exact HB.out)⟩
    · rw [if_neg c6] at H
      exact absurd H (by simp)

end Go.Proofs.Ytnokgkhkmnldeaa.P
