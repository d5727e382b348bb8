-- Printed by this session's own program (wip/tools/mkprint.py) out of the translation. Not trusted: Lean checks it.
import Derived.Test.YtnokgkhkmnldeaaP0
import Derived.Test.YtnokgkhkmnldeaaPf103
/-! short words -/
namespace Go.Proofs.Ytnokgkhkmnldeaa.P
open Go.RowKit Go.Proofs.YtnokgkhkmnldeaaW.PrintWords Go.Proofs.YtnokgkhkmnldeaaW.PrintLast Go.Proofs.YtnokgkhkmnldeaaW.PrintMore
attribute [local go_sem] max2_int min2_int max_two min_two max_three min_three max_four min_four   -- for this text's walks alone
set_option linter.unusedVariables false
set_option linter.unusedSimpArgs false

/-! ### impl_uses: function 75 -/
mutual
def impl_uses.l0 : Nat → Int → Int → List (S48) → Int → Int → Int → Int → List Int → List (S48) → Option (Int)
 | 0, _, _, _, _, _, _, _, _, _ => none
 | k + 1, x1, x5, x16, x17, x18, x700000, x700001, x700002, x700003 => if x18 < x17 then (if 0 ≤ x18 then (if x18 < (x16.length : Int) then ((impl_adds.f k x700000 x18).bind fun t702 => ((impl_uses.f k ((rd_T48 x16 x18).f0) ((rd_T48 x16 x18).f1) ((rd_T48 x16 x18).f2) ((rd_T48 x16 x18).f3) (wrap64 (x1 + t702))).bind fun t703 => (impl_uses.l0 k x1 (wrap64 (x5 + t703)) x16 x17 (wrap64 (x18 + 1)) x700000 x700001 x700002 x700003))) else (none)) else (none)) else (some x5)
def impl_uses.f : Nat → Int → Int → List Int → List (S48) → Int → Option (Int)
 | 0, _, _, _, _, _ => none
 | k + 1, a0_0, a0_1, l0_2, l0_3, a1 => if a0_0 = 0 then (if a0_1 = a1 then (some 1) else (some 0)) else (impl_uses.l0 k a1 0 l0_3 (l0_3.length : Int) 0 a0_0 a0_1 l0_2 l0_3)
end
set_option maxHeartbeats 8000000 in
set_option maxRecDepth 100000 in
theorem impl_uses.calls (k : Nat) : ∀ (a0_0 : Int) (a0_1 : Int) (A0_2 : Option Addr) (c0_2 : Nat) (l0_2 : List Int) (A0_3 : Option Addr) (c0_3 : Nat) (l0_3 : List (S48)) (a1 : Int) (r : Int) (w : World) (hr0_2 : Kd.C (Kd.int .i64) w A0_2 l0_2.length l0_2) (hc0_2 : l0_2.length ≤ c0_2) (hr0_3 : Kd.C k48 w A0_3 l0_3.length l0_3) (hc0_3 : l0_3.length ≤ c0_3) (h : impl_uses.f k a0_0 a0_1 l0_2 l0_3 a1 = some r),
  Calls Try.prog 75 #[.agg #[.int .i64 a0_0, .int .i64 a0_1, .slice A0_2 l0_2.length c0_2, .slice A0_3 l0_3.length c0_3], .int .i64 a1] w fun e w' => e = .returned (.int .i64 r) ∧ Below w.heap.size w w' := by
 induction k using Nat.strongRecOn with
 | _ k ih =>
 intro a0_0 a0_1 A0_2 c0_2 l0_2 A0_3 c0_3 l0_3 a1 r w hr0_2 hc0_2 hr0_3 hc0_3 h
 cases k with
 | zero => exact absurd h (by simp [impl_uses.f])
 | succ k =>
 simp only [impl_uses.f] at h
 have hu48 := Try.underlying48
 have HR0_2 := sd_ hr0_2
 have HC0_2 := sd_ hc0_2
 clear hr0_2 hc0_2
 have HR0_3 := sd_ hr0_3
 have HC0_3 := sd_ hc0_3
 clear hr0_3 hc0_3
 have HB := sd_ (Below.refl w.heap.size w)
 have H : (if a0_0 = 0 then (if a0_1 = a1 then (some 1) else (some 0)) else (impl_uses.l0 k a1 0 l0_3 (l0_3.length : Int) 0 a0_0 a0_1 l0_2 l0_3)) = some r := h
 clear h
 by_cases c3 : a0_0 = 0
 ·rw [if_pos c3] at H
  have c3b0 : (a0_0 == 0) = true := beq_iff_eq.mpr c3
  have c3b1 : (a0_0 != 0) = false := bne_eq_false_iff_eq.mpr c3
  clear c3
  by_cases c4 : a0_1 = a1
  ·rw [if_pos c4] at H
   have c4b0 : (a0_1 == a1) = true := beq_iff_eq.mpr c4
   have c4b1 : (a0_1 != a1) = false := bne_eq_false_iff_eq.mpr c4
   clear c4
   obtain rfl := Option.some.inj H
   go_enter Try.func75, Try.ntmps75
   go_wp2_with (first | ((with_reducible refine gate_dst (N := 2) rfl ?_); refine box_event ?hg (N := 2) ?hd (cs := #[.int .i64 a0_0, .int .i64 a0_1, .slice A0_2 l0_2.length c0_2, .slice A0_3 l0_3.length c0_3]) (t := 48) ?hr ?_; (case hd => rfl); (case hg => rfl); (case hr => first | (go_simp; done) | (go_simp; rfl)); intro gb699 hg w5 hbox hb; have BK699 := sd_ (hbox); have GW699 := sd_ ((by rw [hg]; exact (below_size (bw0_ HB.out)) : w.heap.size ≤ gb699)); have GE699 := sd_ ((by rw [hg]; exact (below_size (bw0_ HB.out)) : w.heap.size ≤ gb699)); replace HB := sd_ (below_step (bw0_ HB.out) hb); clear hb hbox hg; have hcz6_0 : w5.cell? ⟨gb699, 0, none⟩ = some (.int .i64 a0_0) := (blk_cell BK699.out 0).trans rfl; have hcz6_1 : w5.cell? ⟨gb699, 1, none⟩ = some (.int .i64 a0_1) := (blk_cell BK699.out 1).trans rfl; have hcz6_2 : w5.cell? ⟨gb699, 2, none⟩ = some (.slice A0_2 l0_2.length c0_2) := (blk_cell BK699.out 2).trans rfl; have hcz6_3 : w5.cell? ⟨gb699, 3, none⟩ = some (.slice A0_3 l0_3.length c0_3) := (blk_cell BK699.out 3).trans rfl; have hfz6_0 := blk_frozen BK699.out 0; have hfz6_1 := blk_frozen BK699.out 1; have hfz6_2 := blk_frozen BK699.out 2; have hfz6_3 := blk_frozen BK699.out 3))
   go_ret
   exact ⟨by first | rfl | (simp [errW_none, errW_some] <;> rfl) | (simp [*, errW_none, errW_some] <;> rfl), bw1_ HB.out GE699.out⟩
  ·rw [if_neg c4] at H
   have c4b0 : (a0_1 == a1) = false := beq_eq_false_iff_ne.mpr c4
   have c4b1 : (a0_1 != a1) = true := bne_iff_ne.mpr c4
   obtain rfl := Option.some.inj H
   go_enter Try.func75, Try.ntmps75
   go_wp2_with (first | ((with_reducible refine gate_dst (N := 2) rfl ?_); refine box_event ?hg (N := 2) ?hd (cs := #[.int .i64 a0_0, .int .i64 a0_1, .slice A0_2 l0_2.length c0_2, .slice A0_3 l0_3.length c0_3]) (t := 48) ?hr ?_; (case hd => rfl); (case hg => rfl); (case hr => first | (go_simp; done) | (go_simp; rfl)); intro gb699 hg w7 hbox hb; have BK699 := sd_ (hbox); have GW699 := sd_ ((by rw [hg]; exact (below_size (bw0_ HB.out)) : w.heap.size ≤ gb699)); have GE699 := sd_ ((by rw [hg]; exact (below_size (bw0_ HB.out)) : w.heap.size ≤ gb699)); replace HB := sd_ (below_step (bw0_ HB.out) hb); clear hb hbox hg; have hcz8_0 : w7.cell? ⟨gb699, 0, none⟩ = some (.int .i64 a0_0) := (blk_cell BK699.out 0).trans rfl; have hcz8_1 : w7.cell? ⟨gb699, 1, none⟩ = some (.int .i64 a0_1) := (blk_cell BK699.out 1).trans rfl; have hcz8_2 : w7.cell? ⟨gb699, 2, none⟩ = some (.slice A0_2 l0_2.length c0_2) := (blk_cell BK699.out 2).trans rfl; have hcz8_3 : w7.cell? ⟨gb699, 3, none⟩ = some (.slice A0_3 l0_3.length c0_3) := (blk_cell BK699.out 3).trans rfl; have hfz8_0 := blk_frozen BK699.out 0; have hfz8_1 := blk_frozen BK699.out 1; have hfz8_2 := blk_frozen BK699.out 2; have hfz8_3 := blk_frozen BK699.out 3))
   go_ret
   exact ⟨by first | rfl | (simp [errW_none, errW_some] <;> rfl) | (simp [*, errW_none, errW_some] <;> rfl), bw1_ HB.out GE699.out⟩
 ·rw [if_neg c3] at H
  have c3b0 : (a0_0 == 0) = false := beq_eq_false_iff_ne.mpr c3
  have c3b1 : (a0_0 != 0) = true := bne_iff_ne.mpr c3
  have H' := sd_ H
  clear H
  go_enter Try.func75, Try.ntmps75
  go_wp2_with (first | ((with_reducible refine gate_dst (N := 2) rfl ?_); refine box_event ?hg (N := 2) ?hd (cs := #[.int .i64 a0_0, .int .i64 a0_1, .slice A0_2 l0_2.length c0_2, .slice A0_3 l0_3.length c0_3]) (t := 48) ?hr ?_; (case hd => rfl); (case hg => rfl); (case hr => first | (go_simp; done) | (go_simp; rfl)); intro gb699 hg w9 hbox hb; have BK699 := sd_ (hbox); have GW699 := sd_ ((by rw [hg]; exact (below_size (bw0_ HB.out)) : w.heap.size ≤ gb699)); have GE699 := sd_ ((by rw [hg]; exact (below_size (bw0_ HB.out)) : w.heap.size ≤ gb699)); replace HB := sd_ (below_step (bw0_ HB.out) hb); clear hb hbox hg; have hcz10_0 : w9.cell? ⟨gb699, 0, none⟩ = some (.int .i64 a0_0) := (blk_cell BK699.out 0).trans rfl; have hcz10_1 : w9.cell? ⟨gb699, 1, none⟩ = some (.int .i64 a0_1) := (blk_cell BK699.out 1).trans rfl; have hcz10_2 : w9.cell? ⟨gb699, 2, none⟩ = some (.slice A0_2 l0_2.length c0_2) := (blk_cell BK699.out 2).trans rfl; have hcz10_3 : w9.cell? ⟨gb699, 3, none⟩ = some (.slice A0_3 l0_3.length c0_3) := (blk_cell BK699.out 3).trans rfl; have hfz10_0 := blk_frozen BK699.out 0; have hfz10_1 := blk_frozen BK699.out 1; have hfz10_2 := blk_frozen BK699.out 2; have hfz10_3 := blk_frozen BK699.out 3))
  go_loopg [5, 18] k (fun kq v5 v18 w' => ∃ (x5_1 : Int) (x18_1 : Int), v5 = .int .i64 x5_1 ∧ v18 = .int .i64 x18_1 ∧ Aside0 (impl_uses.l0 kq a1 x5_1 l0_3 (l0_3.length : Int) x18_1 a0_0 a0_1 l0_2 l0_3 = some r) ∧ Aside0 (kq ≤ k) ∧ Aside0 (w'.heap[gb699]? = some (.cells #[.int .i64 a0_0, .int .i64 a0_1, (.slice A0_2 l0_2.length c0_2), (.slice A0_3 l0_3.length c0_3)] 48 (0, 0))) ∧ Aside0 (Below w.heap.size w w'))
  case atStart => exact ⟨(0), (0), (by first | rfl | (simp; done) | (simp [*]; done)), (by first | rfl | (simp; done) | (simp [*]; done)), H', ⟨Nat.le_refl _⟩, ⟨by (with_reducible repeat (first | refine blk_drewN ?_ _ | refine blk_drew ?_ | refine blk_alloc ?_ _)); exact BK699.out⟩, ⟨bw1_ HB.out GE699.out⟩⟩
  case round =>
   clear H'
   try clear p2
   try clear c3
   try clear c3b0
   try clear c3b1
   try clear c7
   try clear hcz10_0
   try clear hcz10_1
   try clear hcz10_2
   try clear hcz10_3
   try clear hfz10_0
   try clear hfz10_1
   try clear hfz10_2
   try clear hfz10_3
   obtain ⟨x5_1, x18_1, rfl, rfl, HA, HK1, BK699, HB⟩ := hrel
   cases gk with
   | zero => exact absurd HA.out (by simp [impl_uses.l0])
   | succ k1 =>
    have H := HA.out
    clear HA
    simp only [impl_uses.l0] at H
    by_cases c11 : x18_1 < (l0_3.length : Int)
    ·rw [if_pos c11] at H
     have c11b0 : decide (x18_1 < (l0_3.length : Int)) = true := decide_eq_true c11
     clear c11
     by_cases c12 : 0 ≤ x18_1
     ·rw [if_pos c12] at H
      have c12b0 : decide (0 ≤ x18_1) = true := decide_eq_true c12
      clear c12
      by_cases c13 : x18_1 < (l0_3.length : Int)
      ·rw [if_pos c13] at H
       have c13b0 : decide (x18_1 < (l0_3.length : Int)) = true := decide_eq_true c13
       clear c13
       replace H := Option.bind_eq_some_iff.mp H
       obtain ⟨t702, A140, H⟩ := H
       replace H : ((impl_uses.f k1 ((rd_T48 l0_3 x18_1).f0) ((rd_T48 l0_3 x18_1).f1) ((rd_T48 l0_3 x18_1).f2) ((rd_T48 l0_3 x18_1).f3) (wrap64 (a1 + t702))).bind fun t703 => (impl_uses.l0 k1 a1 (wrap64 (x5_1 + t703)) l0_3 (l0_3.length : Int) (wrap64 (x18_1 + 1)) a0_0 a0_1 l0_2 l0_3)) = some r := H
       have A14 := sd_ A140
       clear A140
       replace H := Option.bind_eq_some_iff.mp H
       obtain ⟨t703, A150, H⟩ := H
       replace H : (impl_uses.l0 k1 a1 (wrap64 (x5_1 + t703)) l0_3 (l0_3.length : Int) (wrap64 (x18_1 + 1)) a0_0 a0_1 l0_2 l0_3) = some r := H
       have A15 := sd_ A150
       clear A150
       have H' := sd_ H
       clear H
       have p700 : 0 ≤ (x18_1 : Int) := of_decide_eq_true (by first | (with_reducible assumption) | assumption)
       have q700 : x18_1 < (l0_3.length : Int) := of_decide_eq_true (by first | (with_reducible assumption) | assumption)
       obtain ⟨ad700, A700_2, c700_2, A700_3, c700_3, e700, hx700_0, hx700_1, hx700_2, hx700_3, hl700_2, hi700_2, hl700_3, hi700_3⟩ := at_T48 HR0_3.out x18_1 p700 q700
       cases e700
       replace hx700_0 := (HB.out.cell (World.block_lt_of_cell? w _ hx700_0)).trans hx700_0
       replace hx700_1 := (HB.out.cell (World.block_lt_of_cell? w _ hx700_1)).trans hx700_1
       replace hx700_2 := (HB.out.cell (World.block_lt_of_cell? w _ hx700_2)).trans hx700_2
       replace hx700_3 := (HB.out.cell (World.block_lt_of_cell? w _ hx700_3)).trans hx700_3
       have HR700_2 := sd_ hi700_2
       have HC700_2 := sd_ hl700_2
       clear hi700_2 hl700_2
       have HR700_3 := sd_ hi700_3
       have HC700_3 := sd_ hl700_3
       clear hi700_3 hl700_3
       replace p700 := eq_true p700
       replace q700 := eq_true q700
       try go_wp2_with (first | ((with_reducible refine gate_dst (N := 7) rfl ?_); refine box_event ?hg (N := 7) ?hd (cs := #[.int .i64 0, .int .i64 0, .slice none 0 0, .slice none 0 0]) (t := 48) ?hr ?_; (case hd => rfl); (case hg => rfl); (case hr => first | (go_simp; done) | (go_simp; rfl)); intro gb701 hg w16 hbox hb; have BK701 := sd_ (hbox); have GW701 := sd_ ((by rw [hg]; exact (below_size (bw1_ HB.out GE699.out)) : w.heap.size ≤ gb701)); have GE701 := sd_ ((by rw [hg]; exact (below_size (bw1_ HB.out GE699.out)) : w.heap.size ≤ gb701)); replace HB := sd_ (below_step (bw1_ HB.out GE699.out) hb); have NB699_701 := sd_ ((by rw [hg]; exact Nat.ne_of_lt (bl_ BK699.out) : gb699 ≠ gb701)); have NB701_699 := sd_ ((by rw [hg]; exact Nat.ne_of_gt (bl_ BK699.out) : gb701 ≠ gb699)); replace BK699 := sd_ (bb_ BK699.out hb); clear hb hbox hg; have hnb17 := NB701_699.out; have hnc17 := NB699_701.out; have hcz18_0 : w16.cell? ⟨gb701, 0, none⟩ = some (.int .i64 0) := (blk_cell BK701.out 0).trans rfl; have hcz18_1 : w16.cell? ⟨gb701, 1, none⟩ = some (.int .i64 0) := (blk_cell BK701.out 1).trans rfl; have hcz18_2 : w16.cell? ⟨gb701, 2, none⟩ = some (.slice none 0 0) := (blk_cell BK701.out 2).trans rfl; have hcz18_3 : w16.cell? ⟨gb701, 3, none⟩ = some (.slice none 0 0) := (blk_cell BK701.out 3).trans rfl; have hfz18_0 := blk_frozen BK701.out 0; have hfz18_1 := blk_frozen BK701.out 1; have hfz18_2 := blk_frozen BK701.out 2; have hfz18_3 := blk_frozen BK701.out 3))
       have n0_ : Aside0 (((((w16.setCell ⟨gb701, 0, none⟩ (.int .i64 ((rd_T48 l0_3 x18_1).f0))).setCell ⟨gb701, 1, none⟩ (.int .i64 ((rd_T48 l0_3 x18_1).f1))).setCell ⟨gb701, 2, none⟩ (.slice A700_2 ((rd_T48 l0_3 x18_1).f2).length c700_2)).setCell ⟨gb701, 3, none⟩ (.slice A700_3 ((rd_T48 l0_3 x18_1).f3).length c700_3)).heap[gb699]? = some (.cells #[.int .i64 a0_0, .int .i64 a0_1, .slice A0_2 l0_2.length c0_2, .slice (some ad700) l0_3.length c0_3] 48 (0, 0))) := ⟨by (with_reducible repeat (first | refine blk_drewN ?_ _ | refine blk_drew ?_ | refine blk_alloc ?_ _)); refine blk_far ?_ NB699_701.out _; (with_reducible repeat (first | refine blk_drewN ?_ _ | refine blk_drew ?_ | refine blk_alloc ?_ _)); refine blk_far ?_ NB699_701.out _; (with_reducible repeat (first | refine blk_drewN ?_ _ | refine blk_drew ?_ | refine blk_alloc ?_ _)); refine blk_far ?_ NB699_701.out _; (with_reducible repeat (first | refine blk_drewN ?_ _ | refine blk_drew ?_ | refine blk_alloc ?_ _)); refine blk_far ?_ NB699_701.out _; (with_reducible repeat (first | refine blk_drewN ?_ _ | refine blk_drew ?_ | refine blk_alloc ?_ _)); exact BK699.out⟩
       have n1_ : Aside0 (((((w16.setCell ⟨gb701, 0, none⟩ (.int .i64 ((rd_T48 l0_3 x18_1).f0))).setCell ⟨gb701, 1, none⟩ (.int .i64 ((rd_T48 l0_3 x18_1).f1))).setCell ⟨gb701, 2, none⟩ (.slice A700_2 ((rd_T48 l0_3 x18_1).f2).length c700_2)).setCell ⟨gb701, 3, none⟩ (.slice A700_3 ((rd_T48 l0_3 x18_1).f3).length c700_3)).heap[gb701]? = some (.cells #[.int .i64 ((rd_T48 l0_3 x18_1).f0), .int .i64 ((rd_T48 l0_3 x18_1).f1), .slice A700_2 ((rd_T48 l0_3 x18_1).f2).length c700_2, .slice A700_3 ((rd_T48 l0_3 x18_1).f3).length c700_3] 48 (0, 0))) := ⟨by (with_reducible repeat (first | refine blk_drewN ?_ _ | refine blk_drew ?_ | refine blk_alloc ?_ _)); refine blk_put (cs := #[.int .i64 ((rd_T48 l0_3 x18_1).f0), .int .i64 ((rd_T48 l0_3 x18_1).f1), .slice A700_2 ((rd_T48 l0_3 x18_1).f2).length c700_2, .slice none 0 0]) ?_ 3 _ rfl; (with_reducible repeat (first | refine blk_drewN ?_ _ | refine blk_drew ?_ | refine blk_alloc ?_ _)); refine blk_put (cs := #[.int .i64 ((rd_T48 l0_3 x18_1).f0), .int .i64 ((rd_T48 l0_3 x18_1).f1), .slice none 0 0, .slice none 0 0]) ?_ 2 _ rfl; (with_reducible repeat (first | refine blk_drewN ?_ _ | refine blk_drew ?_ | refine blk_alloc ?_ _)); refine blk_put (cs := #[.int .i64 ((rd_T48 l0_3 x18_1).f0), .int .i64 0, .slice none 0 0, .slice none 0 0]) ?_ 1 _ rfl; (with_reducible repeat (first | refine blk_drewN ?_ _ | refine blk_drew ?_ | refine blk_alloc ?_ _)); refine blk_put (cs := #[.int .i64 0, .int .i64 0, .slice none 0 0, .slice none 0 0]) ?_ 0 _ rfl; (with_reducible repeat (first | refine blk_drewN ?_ _ | refine blk_drew ?_ | refine blk_alloc ?_ _)); exact BK701.out⟩
       have n2_ : Aside0 (Below w.heap.size w ((((w16.setCell ⟨gb701, 0, none⟩ (.int .i64 ((rd_T48 l0_3 x18_1).f0))).setCell ⟨gb701, 1, none⟩ (.int .i64 ((rd_T48 l0_3 x18_1).f1))).setCell ⟨gb701, 2, none⟩ (.slice A700_2 ((rd_T48 l0_3 x18_1).f2).length c700_2)).setCell ⟨gb701, 3, none⟩ (.slice A700_3 ((rd_T48 l0_3 x18_1).f3).length c700_3))) := ⟨bw2_ HB.out GE699.out GE701.out⟩
       (try clear BK699)
       (try clear BK701)
       (try clear HB)
       generalize ((((w16.setCell ⟨gb701, 0, none⟩ (.int .i64 ((rd_T48 l0_3 x18_1).f0))).setCell ⟨gb701, 1, none⟩ (.int .i64 ((rd_T48 l0_3 x18_1).f1))).setCell ⟨gb701, 2, none⟩ (.slice A700_2 ((rd_T48 l0_3 x18_1).f2).length c700_2)).setCell ⟨gb701, 3, none⟩ (.slice A700_3 ((rd_T48 l0_3 x18_1).f3).length c700_3)) = w19 at n0_ n1_ n2_ ⊢
       have BK699 := n0_
       have BK701 := n1_
       have HB := n2_
       clear n0_ n1_ n2_
       refine qb_region (by kernel_rfl) (by kernel_rfl) ?_
       have HQ := fun (wq : World) (hq : Below w19.heap.size w19 wq) => below_step HB.out hq
       repeat ((first | (apply qb_skip; (focus rfl)) | (refine qb_callN 29 rfl ?_; apply qb_call 29 rfl Try.func103 (by kernel_rfl) rfl rfl; (focus rfl); (focus (exact fun wq9 hb9 => qb_d hb9 (impl_adds.calls k1 a0_0 x18_1 t702 _ A14.out))); (focus (rfl))) | (refine qb_callN 31 rfl ?_; apply qb_call 31 rfl Try.func75 (by kernel_rfl) rfl rfl; (focus rfl); (focus (exact fun wq9 hb9 => qb_b hb9 (ih k1 (by have := HK1.out; omega) ((rd_T48 l0_3 x18_1).f0) ((rd_T48 l0_3 x18_1).f1) _ _ ((rd_T48 l0_3 x18_1).f2) _ _ ((rd_T48 l0_3 x18_1).f3) (wrap64 (a1 + t702)) t703 _ (Kd.C_below HR700_2.out (HQ _ hb9)) HC700_2.out (Kd.C_below HR700_3.out (HQ _ hb9)) HC700_3.out A15.out))); (focus (rfl))) | (apply qb_val; (focus rfl); (focus (intro wq9 _; go_simp; with_reducible rfl))) | (apply qb_val; (focus rfl); (focus (intro wq9 hb9_; have hb9 : Below w19.heap.size w19 wq9 := hb9_; have BK699 := sd_ (blk_below BK699.out hb9); have BK701 := sd_ (blk_below BK701.out hb9); have hc9_699_0 : wq9.cell? ⟨gb699, 0, none⟩ = some (.int .i64 a0_0) := (blk_cell BK699.out 0).trans rfl; have hc9_699_1 : wq9.cell? ⟨gb699, 1, none⟩ = some (.int .i64 a0_1) := (blk_cell BK699.out 1).trans rfl; have hc9_699_2 : wq9.cell? ⟨gb699, 2, none⟩ = some (.slice A0_2 l0_2.length c0_2) := (blk_cell BK699.out 2).trans rfl; have hc9_699_3 : wq9.cell? ⟨gb699, 3, none⟩ = some (.slice (some ad700) l0_3.length c0_3) := (blk_cell BK699.out 3).trans rfl; have hc9_701_0 : wq9.cell? ⟨gb701, 0, none⟩ = some (.int .i64 ((rd_T48 l0_3 x18_1).f0)) := (blk_cell BK701.out 0).trans rfl; have hc9_701_1 : wq9.cell? ⟨gb701, 1, none⟩ = some (.int .i64 ((rd_T48 l0_3 x18_1).f1)) := (blk_cell BK701.out 1).trans rfl; have hc9_701_2 : wq9.cell? ⟨gb701, 2, none⟩ = some (.slice A700_2 ((rd_T48 l0_3 x18_1).f2).length c700_2) := (blk_cell BK701.out 2).trans rfl; have hc9_701_3 : wq9.cell? ⟨gb701, 3, none⟩ = some (.slice A700_3 ((rd_T48 l0_3 x18_1).f3).length c700_3) := (blk_cell BK701.out 3).trans rfl; go_simp; with_reducible rfl)))); (focus (simp only [Act.put, List.setIfInBounds_toArray, List.set_cons_zero, List.set_cons_succ, i64_w, i32_w]; rfl)))
       refine qb_nil ?_
       intro w21 hb
       replace BK699 := sd_ (blk_below BK699.out hb)
       replace BK701 := sd_ (blk_below BK701.out hb)
       replace HB := sd_ (below_step HB.out hb)
       clear hb
       (try clear HQ)
       try go_wp2
       go_roundg k1
       case measure => have := HK1.out; omega
       case rel => exact ⟨(wrap64 (x5_1 + t703)), (wrap64 (x18_1 + 1)), (by first | rfl | (simp; done) | (simp [*]; done)), (by first | rfl | (simp; done) | (simp [*]; done)), H', ⟨by have := HK1.out; omega⟩, ⟨by (with_reducible repeat (first | refine blk_drewN ?_ _ | refine blk_drew ?_ | refine blk_alloc ?_ _)); exact BK699.out⟩, ⟨bw2_ HB.out GE699.out GE701.out⟩⟩
      ·rw [if_neg c13] at H
       exact absurd H (by simp)
     ·rw [if_neg c12] at H
      exact absurd H (by simp)
    ·rw [if_neg c11] at H
     have c11b0 : decide (x18_1 < (l0_3.length : Int)) = false := decide_eq_false c11
     clear c11
     obtain rfl := Option.some.inj H
     go_wp2
     go_ret
     exact ⟨by first | rfl | (simp [errW_none, errW_some] <;> rfl) | (simp [*, errW_none, errW_some] <;> rfl), bw1_ HB.out GE699.out⟩

end Go.Proofs.Ytnokgkhkmnldeaa.P
