-- Printed by this session's own program (wip/tools/mkprint.py) out of the translation. Not trusted: Lean checks it.
import Derived.Test.YtnokgkhkmnldeaaP0
import Derived.Laws.EntriesVeiled
namespace Go.Proofs.Ytnokgkhkmnldeaa.P
open Go.RowKit Go.Proofs.YtnokgkhkmnldeaaW.PrintWords Go.Proofs.YtnokgkhkmnldeaaW.PrintLast Go.Proofs.YtnokgkhkmnldeaaW.PrintMore
attribute [local go_sem] max2_int min2_int max_two min_two max_three min_three max_four min_four   -- for this text's walks alone
set_option linter.unusedVariables false
set_option linter.unusedSimpArgs false

/-! ### impl_Term: function 106 -/
def impl_Term.l0 : Nat → List (S48) → (Int → Int → (List Int) → (List (S48)) → Int → Int → (List Int) → (List (S48)) → Option (Bool)) → List (S48) → Int → Int → Option (Bool)
  | 0, _, _, _, _, _ => none
  | k + 1, x1, x2, x15, x16, x17 => if x17 < x16 then (if 0 ≤ x17 then (if x17 < (x15.length : Int) then (if x17 < (x1.length : Int) then ((x2 ((rd_T48 x15 x17).f0) ((rd_T48 x15 x17).f1) ((rd_T48 x15 x17).f2) ((rd_T48 x15 x17).f3) ((rd_T48 x1 x17).f0) ((rd_T48 x1 x17).f1) ((rd_T48 x1 x17).f2) ((rd_T48 x1 x17).f3)).bind fun t798 => (if t798 = true then (impl_Term.l0 k x1 x2 x15 x16 (wrap64 (x17 + 1))) else (some false))) else (none)) else (none)) else (none)) else (some true)
def impl_Term.f (k : Nat) (l0 : List (S48)) (l1 : List (S48)) (x2 : (Int → Int → (List Int) → (List (S48)) → Int → Int → (List Int) → (List (S48)) → Option (Bool))) : Option (Bool) := if (l0.length : Int) = (l1.length : Int) then (impl_Term.l0 k l1 x2 l0 (l0.length : Int) 0) else (some false)
set_option maxHeartbeats 8000000 in
set_option maxRecDepth 100000 in
theorem impl_Term.calls (k : Nat) (A0 : Option Addr) (c0 : Nat) (l0 : List (S48)) (A1 : Option Addr) (c1 : Nat) (l1 : List (S48)) (x2 : (Int → Int → (List Int) → (List (S48)) → Int → Int → (List Int) → (List (S48)) → Option (Bool))) (K2_ : Nat) (F2_ C2_ : Array Value) (r : Bool) (w : World) (hr0 : Kd.C k48 w A0 l0.length l0) (hc0 : l0.length ≤ c0) (hr1 : Kd.C k48 w A1 l1.length l1) (hc1 : l1.length ≤ c1) (hG2 : OFn K2_) (hF2 : OC50 w x2 K2_ F2_ C2_) (h : impl_Term.f k l0 l1 x2 = some r) :
    Calls Try.prog 106 #[.slice A0 l0.length c0, .slice A1 l1.length c1, .func (.func K2_) F2_ C2_] w fun e w' => e = .returned (.bool r) ∧ Below w.heap.size w w' := by
  have hu48 := Try.underlying48
  have HR0 := Aside0.mk hr0
  have HC0 := Aside0.mk hc0
  clear hr0 hc0
  have HR1 := Aside0.mk hr1
  have HC1 := Aside0.mk hc1
  clear hr1 hc1
  have HG2 := Aside0.mk hG2
  have HF2 := Aside0.mk hF2
  clear hG2 hF2
  have HB := Aside0.mk (Below.refl w.heap.size w)
  have H : (if (l0.length : Int) = (l1.length : Int) then (impl_Term.l0 k l1 x2 l0 (l0.length : Int) 0) else (some false)) = some r := h
  clear h
  by_cases c4 : (l0.length : Int) = (l1.length : Int)
  · rw [if_pos c4] at H
    have c4b0 : ((l0.length : Int) == (l1.length : Int)) = true := beq_iff_eq.mpr c4
    have c4b1 : ((l0.length : Int) != (l1.length : Int)) = false := bne_eq_false_iff_eq.mpr c4
    have c4b2 : (l0.length == l1.length) = true := by first | simpa using c4 | (simp at c4 ⊢; omega)
    clear c4
    have H' := Aside0.mk H
    clear H
    go_enter Try.func106, Try.ntmps106
    go_wp2
    go_loopg [17] k (fun kq v17 w' => ∃ (x17_1 : Int), v17 = .int .i64 x17_1 ∧ Aside0 (impl_Term.l0 kq l1 x2 l0 (l0.length : Int) x17_1 = some r) ∧ Aside0 (kq ≤ k) ∧ Aside0 (Below w.heap.size w w'))
    case atStart => exact ⟨(0), (by first | rfl | (simp; done) | (simp [*]; done)), H', ⟨Nat.le_refl _⟩, ⟨by repeat (first | (with_reducible first | exact HB.out | apply below_alloc | apply pw_below_drewN | apply below_drew1) | exact HB.out)⟩⟩
    case round =>
      clear H'
      try clear c1
      try clear p2
      try clear c4
      try clear c4b0
      try clear c4b1
      try clear c4b2
      obtain ⟨x17_1, rfl, HA, HK1, HB⟩ := hrel
      cases gk with
      | zero => exact absurd HA.out (by simp [impl_Term.l0])
      | succ k1 =>
        have H := HA.out
        clear HA
        simp only [impl_Term.l0] at H
        by_cases c5 : x17_1 < (l0.length : Int)
        · rw [if_pos c5] at H
          have c5b0 : decide (x17_1 < (l0.length : Int)) = true := decide_eq_true c5
          clear c5
          by_cases c6 : 0 ≤ x17_1
          · rw [if_pos c6] at H
            have c6b0 : decide (0 ≤ x17_1) = true := decide_eq_true c6
            clear c6
            by_cases c7 : x17_1 < (l0.length : Int)
            · rw [if_pos c7] at H
              have c7b0 : decide (x17_1 < (l0.length : Int)) = true := decide_eq_true c7
              clear c7
              by_cases c8 : x17_1 < (l1.length : Int)
              · rw [if_pos c8] at H
                have c8b0 : decide (x17_1 < (l1.length : Int)) = true := decide_eq_true c8
                clear c8
                replace H := Option.bind_eq_some_iff.mp H
                obtain ⟨t798, A90, H⟩ := H
                replace H : (if t798 = true then (impl_Term.l0 k1 l1 x2 l0 (l0.length : Int) (wrap64 (x17_1 + 1))) else (some false)) = some r := H
                have A9 := Aside0.mk A90
                clear A90
                have HP10 := Aside0.mk H
                clear H
                have p794 : 0 ≤ (x17_1 : Int) := of_decide_eq_true (by first | (with_reducible assumption) | assumption)
                have q794 : x17_1 < (l0.length : Int) := of_decide_eq_true (by first | (with_reducible assumption) | assumption)
                obtain ⟨ad794, A794_2, c794_2, A794_3, c794_3, e794, hx794_0, hx794_1, hx794_2, hx794_3, hl794_2, hi794_2, hl794_3, hi794_3⟩ := at_T48 HR0.out x17_1 p794 q794
                cases e794
                replace hx794_0 := (HB.out.cell (World.block_lt_of_cell? w _ hx794_0)).trans hx794_0
                replace hx794_1 := (HB.out.cell (World.block_lt_of_cell? w _ hx794_1)).trans hx794_1
                replace hx794_2 := (HB.out.cell (World.block_lt_of_cell? w _ hx794_2)).trans hx794_2
                replace hx794_3 := (HB.out.cell (World.block_lt_of_cell? w _ hx794_3)).trans hx794_3
                have HR794_2 := Aside0.mk hi794_2
                have HC794_2 := Aside0.mk hl794_2
                clear hi794_2 hl794_2
                have HR794_3 := Aside0.mk hi794_3
                have HC794_3 := Aside0.mk hl794_3
                clear hi794_3 hl794_3
                replace p794 := eq_true p794
                replace q794 := eq_true q794
                go_upto_if 30 with (first | ((with_reducible refine gate_dst (N := 8) rfl ?_); refine box_event ?hg (N := 8) ?hd (cs := #[.int .i64 0, .int .i64 0, .slice none 0 0, .slice none 0 0]) (t := 48) ?hr ?_; (case hd => rfl); (case hg => rfl); (case hr => first | (go_simp; done) | (go_simp; rfl)); intro gb795 hg w11 hbox hb; have n0_ := Aside0.mk (below_step (by repeat (first | (with_reducible first | exact HB.out | apply below_alloc | apply pw_below_drewN | apply below_drew1) | exact HB.out)) hb); have n1_ := Aside0.mk (hbox); have n2_ := Aside0.mk ((by rw [hg]; exact (below_size (by repeat (first | (with_reducible first | exact HB.out | apply below_alloc | apply pw_below_drewN | apply below_drew1) | exact HB.out))) : w.heap.size ≤ gb795)); have n3_ := Aside0.mk ((by rw [hg]; exact (below_size (by repeat (first | (with_reducible first | exact HB.out | apply below_alloc | apply pw_below_drewN | apply below_drew1) | exact HB.out))) : w.heap.size ≤ gb795)); clear HB; have HB := n0_; have BK795 := n1_; have GW795 := n2_; have GE795 := n3_; clear n0_ n1_ n2_ n3_; clear hb hbox hg; have hcz12_0 : w11.cell? ⟨gb795, 0, none⟩ = some (.int .i64 0) := (blk_cell BK795.out 0).trans rfl; have hcz12_1 : w11.cell? ⟨gb795, 1, none⟩ = some (.int .i64 0) := (blk_cell BK795.out 1).trans rfl; have hcz12_2 : w11.cell? ⟨gb795, 2, none⟩ = some (.slice none 0 0) := (blk_cell BK795.out 2).trans rfl; have hcz12_3 : w11.cell? ⟨gb795, 3, none⟩ = some (.slice none 0 0) := (blk_cell BK795.out 3).trans rfl; have hfz12_0 := blk_frozen BK795.out 0; have hfz12_1 := blk_frozen BK795.out 1; have hfz12_2 := blk_frozen BK795.out 2; have hfz12_3 := blk_frozen BK795.out 3; have p796 : 0 ≤ (x17_1 : Int) := of_decide_eq_true (by first | (with_reducible assumption) | assumption); have q796 : x17_1 < (l1.length : Int) := of_decide_eq_true (by first | (with_reducible assumption) | assumption); obtain ⟨ad796, A796_2, c796_2, A796_3, c796_3, e796, hx796_0, hx796_1, hx796_2, hx796_3, hl796_2, hi796_2, hl796_3, hi796_3⟩ := at_T48 HR1.out x17_1 p796 q796; cases e796; have hn796_0 : ad796.block ≠ gb795 := Nat.ne_of_lt (Nat.lt_of_lt_of_le (by have := World.block_lt_of_cell? _ _ hx796_0; first | rwa [add_block] at this | exact this) GW795.out); have hn796_1 : ad796.block ≠ gb795 := Nat.ne_of_lt (Nat.lt_of_lt_of_le (by have := World.block_lt_of_cell? _ _ hx796_0; first | rwa [add_block] at this | exact this) GW795.out); have hn796_2 : ad796.block ≠ gb795 := Nat.ne_of_lt (Nat.lt_of_lt_of_le (by have := World.block_lt_of_cell? _ _ hx796_0; first | rwa [add_block] at this | exact this) GW795.out); have hn796_3 : ad796.block ≠ gb795 := Nat.ne_of_lt (Nat.lt_of_lt_of_le (by have := World.block_lt_of_cell? _ _ hx796_0; first | rwa [add_block] at this | exact this) GW795.out); replace hx796_0 := (HB.out.cell (World.block_lt_of_cell? w _ hx796_0)).trans hx796_0; replace hx796_1 := (HB.out.cell (World.block_lt_of_cell? w _ hx796_1)).trans hx796_1; replace hx796_2 := (HB.out.cell (World.block_lt_of_cell? w _ hx796_2)).trans hx796_2; replace hx796_3 := (HB.out.cell (World.block_lt_of_cell? w _ hx796_3)).trans hx796_3; have HR796_2 := Aside0.mk hi796_2; have HC796_2 := Aside0.mk hl796_2; clear hi796_2 hl796_2; have HR796_3 := Aside0.mk hi796_3; have HC796_3 := Aside0.mk hl796_3; clear hi796_3 hl796_3; replace hx796_0 := (cell_far (p := ⟨gb795, 0, none⟩) (by first | (rw [add_block]; exact hn796_0) | (show (Addr.add _ _).block ≠ _; rw [add_block]; exact hn796_0) | exact hn796_0) (.int .i64 ((rd_T48 l0 x17_1).f0))).trans hx796_0; replace hx796_1 := (cell_far (p := ⟨gb795, 0, none⟩) (by first | (rw [add_block]; exact hn796_0) | (show (Addr.add _ _).block ≠ _; rw [add_block]; exact hn796_0) | exact hn796_0) (.int .i64 ((rd_T48 l0 x17_1).f0))).trans hx796_1; replace hx796_2 := (cell_far (p := ⟨gb795, 0, none⟩) (by first | (rw [add_block]; exact hn796_0) | (show (Addr.add _ _).block ≠ _; rw [add_block]; exact hn796_0) | exact hn796_0) (.int .i64 ((rd_T48 l0 x17_1).f0))).trans hx796_2; replace hx796_3 := (cell_far (p := ⟨gb795, 0, none⟩) (by first | (rw [add_block]; exact hn796_0) | (show (Addr.add _ _).block ≠ _; rw [add_block]; exact hn796_0) | exact hn796_0) (.int .i64 ((rd_T48 l0 x17_1).f0))).trans hx796_3; replace hx796_0 := (cell_far (p := ⟨gb795, 1, none⟩) (by first | (rw [add_block]; exact hn796_1) | (show (Addr.add _ _).block ≠ _; rw [add_block]; exact hn796_1) | exact hn796_1) (.int .i64 ((rd_T48 l0 x17_1).f1))).trans hx796_0; replace hx796_1 := (cell_far (p := ⟨gb795, 1, none⟩) (by first | (rw [add_block]; exact hn796_1) | (show (Addr.add _ _).block ≠ _; rw [add_block]; exact hn796_1) | exact hn796_1) (.int .i64 ((rd_T48 l0 x17_1).f1))).trans hx796_1; replace hx796_2 := (cell_far (p := ⟨gb795, 1, none⟩) (by first | (rw [add_block]; exact hn796_1) | (show (Addr.add _ _).block ≠ _; rw [add_block]; exact hn796_1) | exact hn796_1) (.int .i64 ((rd_T48 l0 x17_1).f1))).trans hx796_2; replace hx796_3 := (cell_far (p := ⟨gb795, 1, none⟩) (by first | (rw [add_block]; exact hn796_1) | (show (Addr.add _ _).block ≠ _; rw [add_block]; exact hn796_1) | exact hn796_1) (.int .i64 ((rd_T48 l0 x17_1).f1))).trans hx796_3; replace hx796_0 := (cell_far (p := ⟨gb795, 2, none⟩) (by first | (rw [add_block]; exact hn796_2) | (show (Addr.add _ _).block ≠ _; rw [add_block]; exact hn796_2) | exact hn796_2) (.slice A794_2 ((rd_T48 l0 x17_1).f2).length c794_2)).trans hx796_0; replace hx796_1 := (cell_far (p := ⟨gb795, 2, none⟩) (by first | (rw [add_block]; exact hn796_2) | (show (Addr.add _ _).block ≠ _; rw [add_block]; exact hn796_2) | exact hn796_2) (.slice A794_2 ((rd_T48 l0 x17_1).f2).length c794_2)).trans hx796_1; replace hx796_2 := (cell_far (p := ⟨gb795, 2, none⟩) (by first | (rw [add_block]; exact hn796_2) | (show (Addr.add _ _).block ≠ _; rw [add_block]; exact hn796_2) | exact hn796_2) (.slice A794_2 ((rd_T48 l0 x17_1).f2).length c794_2)).trans hx796_2; replace hx796_3 := (cell_far (p := ⟨gb795, 2, none⟩) (by first | (rw [add_block]; exact hn796_2) | (show (Addr.add _ _).block ≠ _; rw [add_block]; exact hn796_2) | exact hn796_2) (.slice A794_2 ((rd_T48 l0 x17_1).f2).length c794_2)).trans hx796_3; replace hx796_0 := (cell_far (p := ⟨gb795, 3, none⟩) (by first | (rw [add_block]; exact hn796_3) | (show (Addr.add _ _).block ≠ _; rw [add_block]; exact hn796_3) | exact hn796_3) (.slice A794_3 ((rd_T48 l0 x17_1).f3).length c794_3)).trans hx796_0; replace hx796_1 := (cell_far (p := ⟨gb795, 3, none⟩) (by first | (rw [add_block]; exact hn796_3) | (show (Addr.add _ _).block ≠ _; rw [add_block]; exact hn796_3) | exact hn796_3) (.slice A794_3 ((rd_T48 l0 x17_1).f3).length c794_3)).trans hx796_1; replace hx796_2 := (cell_far (p := ⟨gb795, 3, none⟩) (by first | (rw [add_block]; exact hn796_3) | (show (Addr.add _ _).block ≠ _; rw [add_block]; exact hn796_3) | exact hn796_3) (.slice A794_3 ((rd_T48 l0 x17_1).f3).length c794_3)).trans hx796_2; replace hx796_3 := (cell_far (p := ⟨gb795, 3, none⟩) (by first | (rw [add_block]; exact hn796_3) | (show (Addr.add _ _).block ≠ _; rw [add_block]; exact hn796_3) | exact hn796_3) (.slice A794_3 ((rd_T48 l0 x17_1).f3).length c794_3)).trans hx796_3; clear hn796_0; clear hn796_1; clear hn796_2; clear hn796_3; replace p796 := eq_true p796; replace q796 := eq_true q796) | ((with_reducible refine gate_dst (N := 9) rfl ?_); refine box_event ?hg (N := 9) ?hd (cs := #[.int .i64 0, .int .i64 0, .slice none 0 0, .slice none 0 0]) (t := 48) ?hr ?_; (case hd => rfl); (case hg => rfl); (case hr => first | (go_simp; done) | (go_simp; rfl)); intro gb797 hg w13 hbox hb; have n0_ := Aside0.mk (blk_below (g := gb795) (o := .cells #[.int .i64 ((rd_T48 l0 x17_1).f0), .int .i64 ((rd_T48 l0 x17_1).f1), .slice A794_2 ((rd_T48 l0 x17_1).f2).length c794_2, .slice A794_3 ((rd_T48 l0 x17_1).f3).length c794_3] 48 (0, 0)) (by (with_reducible repeat (first | refine blk_drewN ?_ _ | refine blk_drew ?_ | refine blk_alloc ?_ _)); refine blk_put (cs := #[.int .i64 ((rd_T48 l0 x17_1).f0), .int .i64 ((rd_T48 l0 x17_1).f1), .slice A794_2 ((rd_T48 l0 x17_1).f2).length c794_2, .slice none 0 0]) ?_ 3 _ rfl; (with_reducible repeat (first | refine blk_drewN ?_ _ | refine blk_drew ?_ | refine blk_alloc ?_ _)); refine blk_put (cs := #[.int .i64 ((rd_T48 l0 x17_1).f0), .int .i64 ((rd_T48 l0 x17_1).f1), .slice none 0 0, .slice none 0 0]) ?_ 2 _ rfl; (with_reducible repeat (first | refine blk_drewN ?_ _ | refine blk_drew ?_ | refine blk_alloc ?_ _)); refine blk_put (cs := #[.int .i64 ((rd_T48 l0 x17_1).f0), .int .i64 0, .slice none 0 0, .slice none 0 0]) ?_ 1 _ rfl; (with_reducible repeat (first | refine blk_drewN ?_ _ | refine blk_drew ?_ | refine blk_alloc ?_ _)); refine blk_put (cs := #[.int .i64 0, .int .i64 0, .slice none 0 0, .slice none 0 0]) ?_ 0 _ rfl; (with_reducible repeat (first | refine blk_drewN ?_ _ | refine blk_drew ?_ | refine blk_alloc ?_ _)); exact BK795.out) hb); have n1_ := Aside0.mk (below_step (by repeat (first | (with_reducible first | exact HB.out | apply below_alloc | apply pw_below_drewN | apply below_drew1 | refine below_set ?_ GE795.out) | exact HB.out)) hb); have n2_ := Aside0.mk (hbox); have n3_ := Aside0.mk ((by rw [hg]; exact (below_size (by repeat (first | (with_reducible first | exact HB.out | apply below_alloc | apply pw_below_drewN | apply below_drew1 | refine below_set ?_ GE795.out) | exact HB.out))) : w.heap.size ≤ gb797)); have n4_ := Aside0.mk ((by rw [hg]; exact (below_size (by repeat (first | (with_reducible first | exact HB.out | apply below_alloc | apply pw_below_drewN | apply below_drew1 | refine below_set ?_ GE795.out) | exact HB.out))) : w.heap.size ≤ gb797)); have n5_ := Aside0.mk ((by rw [hg]; exact Nat.ne_of_lt (blk_lt (g := gb795) (o := .cells #[.int .i64 ((rd_T48 l0 x17_1).f0), .int .i64 ((rd_T48 l0 x17_1).f1), .slice A794_2 ((rd_T48 l0 x17_1).f2).length c794_2, .slice A794_3 ((rd_T48 l0 x17_1).f3).length c794_3] 48 (0, 0)) (by (with_reducible repeat (first | refine blk_drewN ?_ _ | refine blk_drew ?_ | refine blk_alloc ?_ _)); refine blk_put (cs := #[.int .i64 ((rd_T48 l0 x17_1).f0), .int .i64 ((rd_T48 l0 x17_1).f1), .slice A794_2 ((rd_T48 l0 x17_1).f2).length c794_2, .slice none 0 0]) ?_ 3 _ rfl; (with_reducible repeat (first | refine blk_drewN ?_ _ | refine blk_drew ?_ | refine blk_alloc ?_ _)); refine blk_put (cs := #[.int .i64 ((rd_T48 l0 x17_1).f0), .int .i64 ((rd_T48 l0 x17_1).f1), .slice none 0 0, .slice none 0 0]) ?_ 2 _ rfl; (with_reducible repeat (first | refine blk_drewN ?_ _ | refine blk_drew ?_ | refine blk_alloc ?_ _)); refine blk_put (cs := #[.int .i64 ((rd_T48 l0 x17_1).f0), .int .i64 0, .slice none 0 0, .slice none 0 0]) ?_ 1 _ rfl; (with_reducible repeat (first | refine blk_drewN ?_ _ | refine blk_drew ?_ | refine blk_alloc ?_ _)); refine blk_put (cs := #[.int .i64 0, .int .i64 0, .slice none 0 0, .slice none 0 0]) ?_ 0 _ rfl; (with_reducible repeat (first | refine blk_drewN ?_ _ | refine blk_drew ?_ | refine blk_alloc ?_ _)); exact BK795.out)) : gb795 ≠ gb797)); have n6_ := Aside0.mk ((by rw [hg]; exact Nat.ne_of_gt (blk_lt (g := gb795) (o := .cells #[.int .i64 ((rd_T48 l0 x17_1).f0), .int .i64 ((rd_T48 l0 x17_1).f1), .slice A794_2 ((rd_T48 l0 x17_1).f2).length c794_2, .slice A794_3 ((rd_T48 l0 x17_1).f3).length c794_3] 48 (0, 0)) (by (with_reducible repeat (first | refine blk_drewN ?_ _ | refine blk_drew ?_ | refine blk_alloc ?_ _)); refine blk_put (cs := #[.int .i64 ((rd_T48 l0 x17_1).f0), .int .i64 ((rd_T48 l0 x17_1).f1), .slice A794_2 ((rd_T48 l0 x17_1).f2).length c794_2, .slice none 0 0]) ?_ 3 _ rfl; (with_reducible repeat (first | refine blk_drewN ?_ _ | refine blk_drew ?_ | refine blk_alloc ?_ _)); refine blk_put (cs := #[.int .i64 ((rd_T48 l0 x17_1).f0), .int .i64 ((rd_T48 l0 x17_1).f1), .slice none 0 0, .slice none 0 0]) ?_ 2 _ rfl; (with_reducible repeat (first | refine blk_drewN ?_ _ | refine blk_drew ?_ | refine blk_alloc ?_ _)); refine blk_put (cs := #[.int .i64 ((rd_T48 l0 x17_1).f0), .int .i64 0, .slice none 0 0, .slice none 0 0]) ?_ 1 _ rfl; (with_reducible repeat (first | refine blk_drewN ?_ _ | refine blk_drew ?_ | refine blk_alloc ?_ _)); refine blk_put (cs := #[.int .i64 0, .int .i64 0, .slice none 0 0, .slice none 0 0]) ?_ 0 _ rfl; (with_reducible repeat (first | refine blk_drewN ?_ _ | refine blk_drew ?_ | refine blk_alloc ?_ _)); exact BK795.out)) : gb797 ≠ gb795)); clear BK795; clear HB; have BK795 := n0_; have HB := n1_; have BK797 := n2_; have GW797 := n3_; have GE797 := n4_; have NB795_797 := n5_; have NB797_795 := n6_; clear n0_ n1_ n2_ n3_ n4_ n5_ n6_; clear hb hbox hg; have hnb14 := NB797_795.out; have hnc14 := NB795_797.out; have hcz15_0 : w13.cell? ⟨gb797, 0, none⟩ = some (.int .i64 0) := (blk_cell BK797.out 0).trans rfl; have hcz15_1 : w13.cell? ⟨gb797, 1, none⟩ = some (.int .i64 0) := (blk_cell BK797.out 1).trans rfl; have hcz15_2 : w13.cell? ⟨gb797, 2, none⟩ = some (.slice none 0 0) := (blk_cell BK797.out 2).trans rfl; have hcz15_3 : w13.cell? ⟨gb797, 3, none⟩ = some (.slice none 0 0) := (blk_cell BK797.out 3).trans rfl; have hfz15_0 := blk_frozen BK797.out 0; have hfz15_1 := blk_frozen BK797.out 1; have hfz15_2 := blk_frozen BK797.out 2; have hfz15_3 := blk_frozen BK797.out 3; have hcz16_0 : w13.cell? ⟨gb795, 0, none⟩ = some (.int .i64 ((rd_T48 l0 x17_1).f0)) := (blk_cell BK795.out 0).trans rfl; have hcz16_1 : w13.cell? ⟨gb795, 1, none⟩ = some (.int .i64 ((rd_T48 l0 x17_1).f1)) := (blk_cell BK795.out 1).trans rfl; have hcz16_2 : w13.cell? ⟨gb795, 2, none⟩ = some (.slice A794_2 ((rd_T48 l0 x17_1).f2).length c794_2) := (blk_cell BK795.out 2).trans rfl; have hcz16_3 : w13.cell? ⟨gb795, 3, none⟩ = some (.slice A794_3 ((rd_T48 l0 x17_1).f3).length c794_3) := (blk_cell BK795.out 3).trans rfl; have hfz16_0 := blk_frozen BK795.out 0; have hfz16_1 := blk_frozen BK795.out 1; have hfz16_2 := blk_frozen BK795.out 2; have hfz16_3 := blk_frozen BK795.out 3) | ((with_reducible refine gate_calleeO (t := 26) rfl ?_); refine goesOL_ (some 29) rfl rfl HG2.out #[.agg #[.int .i64 ((rd_T48 l0 x17_1).f0), .int .i64 ((rd_T48 l0 x17_1).f1), .slice A794_2 ((rd_T48 l0 x17_1).f2).length c794_2, .slice A794_3 ((rd_T48 l0 x17_1).f3).length c794_3], .agg #[.int .i64 ((rd_T48 l1 x17_1).f0), .int .i64 ((rd_T48 l1 x17_1).f1), .slice A796_2 ((rd_T48 l1 x17_1).f2).length c796_2, .slice A796_3 ((rd_T48 l1 x17_1).f3).length c796_3]] rfl (by (try simp only [List.map_toArray, List.map_cons, List.map_nil]); first | done | rfl | (simp only [List.length_drop, List.length_take]; rfl)) rfl ?_; (with_reducible refine (HF2.out ((rd_T48 l0 x17_1).f0) ((rd_T48 l0 x17_1).f1) _ _ ((rd_T48 l0 x17_1).f2) _ _ ((rd_T48 l0 x17_1).f3) ((rd_T48 l1 x17_1).f0) ((rd_T48 l1 x17_1).f1) _ _ ((rd_T48 l1 x17_1).f2) _ _ ((rd_T48 l1 x17_1).f3) t798 _ ?side1 ?side2 ?side3 ?side4 ?side5 ?side6 ?side7 ?side8 ?side9 A9.out).mono ?_); (case side1 => exact Kd.C_below HR794_2.out (by repeat (first | (with_reducible first | exact HB.out | apply below_alloc | apply pw_below_drewN | apply below_drew1 | refine below_set ?_ GE795.out | refine below_set ?_ GE797.out) | exact HB.out))); (case side2 => exact HC794_2.out); (case side3 => exact Kd.C_below HR794_3.out (by repeat (first | (with_reducible first | exact HB.out | apply below_alloc | apply pw_below_drewN | apply below_drew1 | refine below_set ?_ GE795.out | refine below_set ?_ GE797.out) | exact HB.out))); (case side4 => exact HC794_3.out); (case side5 => exact Kd.C_below HR796_2.out (by repeat (first | (with_reducible first | exact HB.out | apply below_alloc | apply pw_below_drewN | apply below_drew1 | refine below_set ?_ GE795.out | refine below_set ?_ GE797.out) | exact HB.out))); (case side6 => exact HC796_2.out); (case side7 => exact Kd.C_below HR796_3.out (by repeat (first | (with_reducible first | exact HB.out | apply below_alloc | apply pw_below_drewN | apply below_drew1 | refine below_set ?_ GE795.out | refine below_set ?_ GE797.out) | exact HB.out))); (case side8 => exact HC796_3.out); (case side9 => exact (by repeat (first | (with_reducible first | exact HB.out | apply below_alloc | apply pw_below_drewN | apply below_drew1 | refine below_set ?_ GE795.out | refine below_set ?_ GE797.out) | exact HB.out))); rintro e w17 ⟨rfl, hb⟩; refine ⟨_, rfl, ?_⟩; have n0_ := Aside0.mk (blk_below (g := gb795) (o := .cells #[.int .i64 ((rd_T48 l0 x17_1).f0), .int .i64 ((rd_T48 l0 x17_1).f1), .slice A794_2 ((rd_T48 l0 x17_1).f2).length c794_2, .slice A794_3 ((rd_T48 l0 x17_1).f3).length c794_3] 48 (0, 0)) (by (with_reducible repeat (first | refine blk_drewN ?_ _ | refine blk_drew ?_ | refine blk_alloc ?_ _)); refine blk_far ?_ NB795_797.out _; (with_reducible repeat (first | refine blk_drewN ?_ _ | refine blk_drew ?_ | refine blk_alloc ?_ _)); refine blk_far ?_ NB795_797.out _; (with_reducible repeat (first | refine blk_drewN ?_ _ | refine blk_drew ?_ | refine blk_alloc ?_ _)); refine blk_far ?_ NB795_797.out _; (with_reducible repeat (first | refine blk_drewN ?_ _ | refine blk_drew ?_ | refine blk_alloc ?_ _)); refine blk_far ?_ NB795_797.out _; (with_reducible repeat (first | refine blk_drewN ?_ _ | refine blk_drew ?_ | refine blk_alloc ?_ _)); exact BK795.out) hb); have n1_ := Aside0.mk (blk_below (g := gb797) (o := .cells #[.int .i64 ((rd_T48 l1 x17_1).f0), .int .i64 ((rd_T48 l1 x17_1).f1), .slice A796_2 ((rd_T48 l1 x17_1).f2).length c796_2, .slice A796_3 ((rd_T48 l1 x17_1).f3).length c796_3] 48 (0, 0)) (by (with_reducible repeat (first | refine blk_drewN ?_ _ | refine blk_drew ?_ | refine blk_alloc ?_ _)); refine blk_put (cs := #[.int .i64 ((rd_T48 l1 x17_1).f0), .int .i64 ((rd_T48 l1 x17_1).f1), .slice A796_2 ((rd_T48 l1 x17_1).f2).length c796_2, .slice none 0 0]) ?_ 3 _ rfl; (with_reducible repeat (first | refine blk_drewN ?_ _ | refine blk_drew ?_ | refine blk_alloc ?_ _)); refine blk_put (cs := #[.int .i64 ((rd_T48 l1 x17_1).f0), .int .i64 ((rd_T48 l1 x17_1).f1), .slice none 0 0, .slice none 0 0]) ?_ 2 _ rfl; (with_reducible repeat (first | refine blk_drewN ?_ _ | refine blk_drew ?_ | refine blk_alloc ?_ _)); refine blk_put (cs := #[.int .i64 ((rd_T48 l1 x17_1).f0), .int .i64 0, .slice none 0 0, .slice none 0 0]) ?_ 1 _ rfl; (with_reducible repeat (first | refine blk_drewN ?_ _ | refine blk_drew ?_ | refine blk_alloc ?_ _)); refine blk_put (cs := #[.int .i64 0, .int .i64 0, .slice none 0 0, .slice none 0 0]) ?_ 0 _ rfl; (with_reducible repeat (first | refine blk_drewN ?_ _ | refine blk_drew ?_ | refine blk_alloc ?_ _)); exact BK797.out) hb); have n2_ := Aside0.mk (below_step (by repeat (first | (with_reducible first | exact HB.out | apply below_alloc | apply pw_below_drewN | apply below_drew1 | refine below_set ?_ GE795.out | refine below_set ?_ GE797.out) | exact HB.out)) hb); clear BK795; clear BK797; clear HB; have BK795 := n0_; have BK797 := n1_; have HB := n2_; clear n0_ n1_ n2_; (try clear hb); (try clear hb2); (try clear hk); (try clear hi)))
                have H := HP10.out
                clear HP10
                by_cases c18 : t798 = true
                · subst c18
                  have H1 : (impl_Term.l0 k1 l1 x2 l0 (l0.length : Int) (wrap64 (x17_1 + 1))) = some r := by rw [if_pos rfl] at H; exact H
                  clear H
                  have H := H1
                  clear H1
                  have H' := Aside0.mk H
                  clear H
                  go_wp2
                  go_roundg k1
                  case measure => have := HK1.out; omega
                  case rel => exact ⟨(wrap64 (x17_1 + 1)), (by first | rfl | (simp; done) | (simp [*]; done)), H', ⟨by have := HK1.out; omega⟩, ⟨by repeat (first | (with_reducible first | exact HB.out | apply below_alloc | apply pw_below_drewN | apply below_drew1 | refine below_set ?_ GE795.out | refine below_set ?_ GE797.out) | exact HB.out)⟩⟩
                · replace c18 := Bool.eq_false_iff.mpr c18
                  subst c18
                  have H1 : (some false) = some r := by rw [if_neg (show ¬ (false = true) by decide)] at H; exact H
                  clear H
                  have H := H1
                  clear H1
                  obtain rfl := Option.some.inj H
                  go_wp2
                  go_ret
                  exact ⟨by first | rfl | (simp [errW_none, errW_some] <;> rfl) | (simp [*, errW_none, errW_some] <;> rfl), by repeat (first | (with_reducible first | exact HB.out | apply below_alloc | apply pw_below_drewN | apply below_drew1 | refine below_set ?_ GE795.out | refine below_set ?_ GE797.out) | exact HB.out)⟩
              · rw [if_neg c8] at H
                exact absurd H (by simp)
            · rw [if_neg c7] at H
              exact absurd H (by simp)
          · rw [if_neg c6] at H
            exact absurd H (by simp)
        · rw [if_neg c5] at H
          have c5b0 : decide (x17_1 < (l0.length : Int)) = false := decide_eq_false c5
          clear c5
          obtain rfl := Option.some.inj H
          go_wp2
          go_ret
          exact ⟨by first | rfl | (simp [errW_none, errW_some] <;> rfl) | (simp [*, errW_none, errW_some] <;> rfl), by repeat (first | (with_reducible first | exact HB.out | apply below_alloc | apply pw_below_drewN | apply below_drew1) | exact HB.out)⟩
  · rw [if_neg c4] at H
    have c4b0 : ((l0.length : Int) == (l1.length : Int)) = false := beq_eq_false_iff_ne.mpr c4
    have c4b1 : ((l0.length : Int) != (l1.length : Int)) = true := bne_iff_ne.mpr c4
    have c4b2 : (l0.length == l1.length) = false := by first | simpa using c4 | (simp at c4 ⊢; omega)
    obtain rfl := Option.some.inj H
    go_enter Try.func106, Try.ntmps106
    go_wp2
    go_ret
    exact ⟨by first | rfl | (simp [errW_none, errW_some] <;> rfl) | (simp [*, errW_none, errW_some] <;> rfl), by repeat (first | (with_reducible first | exact HB.out | apply below_alloc | apply pw_below_drewN | apply below_drew1) | exact HB.out)⟩

end Go.Proofs.Ytnokgkhkmnldeaa.P
