-- Printed by this session's own program (wip/tools/mkprint.py) out of the translation. Not trusted: Lean checks it.
import Derived.Test.YtcdmnofomoadlaaP0
import Derived.Test.YtcdmnofomoadlaaPe0
/-! short words -/
namespace Go.Proofs.Ytcdmnofomoadlaa.P
open Go.RowKit Go.Proofs.YtcdmnofomoadlaaW.PrintWords Go.Proofs.YtcdmnofomoadlaaW.PrintLast Go.Proofs.YtcdmnofomoadlaaW.PrintMore
attribute [local go_sem] max2_int min2_int max_two min_two max_three min_three max_four min_four   -- for this text's walks alone
set_option linter.unusedVariables false
set_option linter.unusedSimpArgs false

attribute [local go_sem high] eqA71
/-! ### slices_Index_2_int_2_int: function 65 -/
def slices_Index_2_int_2_int.l0 : Nat → List (S71) → Int → Int → Int → Int → Option (Int)
 | 0, _, _, _, _, _ => none
 | k + 1, x0, x7, x8, x245000, x245001 => if x8 < x7 then (if 0 ≤ x8 then (if x8 < (x0.length : Int) then (if (x245000 == ((rd_T71 x0 x8).f0) && (x245001 == ((rd_T71 x0 x8).f1))) = true then (some x8) else (slices_Index_2_int_2_int.l0 k x0 x7 (wrap64 (x8 + 1)) x245000 x245001)) else (none)) else (none)) else (some (-1))
def slices_Index_2_int_2_int.f (k : Nat) (l0 : List (S71)) (a1_0 : Int) (a1_1 : Int) : Option (Int) := slices_Index_2_int_2_int.l0 k l0 (l0.length : Int) 0 a1_0 a1_1
set_option maxHeartbeats 8000000 in
set_option maxRecDepth 100000 in
theorem slices_Index_2_int_2_int.calls (k : Nat) (A0 : Option Addr) (c0 : Nat) (l0 : List (S71)) (a1_0 : Int) (a1_1 : Int) (r : Int) (w : World) (hr0 : Kd.C k71 w A0 l0.length l0) (hc0 : l0.length ≤ c0) (h : slices_Index_2_int_2_int.f k l0 a1_0 a1_1 = some r) :
  Calls Try.prog 65 #[.slice A0 l0.length c0, .agg #[.int .i64 a1_0, .int .i64 a1_1]] w fun e w' => e = .returned (.int .i64 r) ∧ Below w.heap.size w w' := by
 have hu71 := Try.underlying71
 have HR0 := sd_ hr0
 have HC0 := sd_ hc0
 clear hr0 hc0
 have HB := sd_ (Below.refl w.heap.size w)
 have H : (slices_Index_2_int_2_int.l0 k l0 (l0.length : Int) 0 a1_0 a1_1) = some r := h
 clear h
 have H' := sd_ H
 clear H
 go_enter Try.func65, Try.ntmps65
 go_wp2_with (first | ((with_reducible refine gate_dst (N := 3) rfl ?_); refine box_event ?hg (N := 3) ?hd (cs := #[.int .i64 a1_0, .int .i64 a1_1]) (t := 71) ?hr ?_; (case hd => rfl); (case hg => rfl); (case hr => first | (go_simp; done) | (go_simp; rfl)); intro gb244 hg w3 hbox hb; have BK244 := sd_ (hbox); have GW244 := sd_ ((by rw [hg]; exact (below_size (bw0_ HB.out)) : w.heap.size ≤ gb244)); have GE244 := sd_ ((by rw [hg]; exact (below_size (bw0_ HB.out)) : w.heap.size ≤ gb244)); replace HB := sd_ (below_step (bw0_ HB.out) hb); clear hb hbox hg))
 repeat (go_quiet (first | ((with_reducible refine gate_dst (N := 3) rfl ?_); refine box_event ?hg (N := 3) ?hd (cs := #[.int .i64 a1_0, .int .i64 a1_1]) (t := 71) ?hr ?_; (case hd => rfl); (case hg => rfl); (case hr => first | (go_simp; done) | (go_simp; rfl)); intro gb244 hg w3 hbox hb; have BK244 := sd_ (hbox); have GW244 := sd_ ((by rw [hg]; exact (below_size (bw0_ HB.out)) : w.heap.size ≤ gb244)); have GE244 := sd_ ((by rw [hg]; exact (below_size (bw0_ HB.out)) : w.heap.size ≤ gb244)); replace HB := sd_ (below_step (bw0_ HB.out) hb); clear hb hbox hg)); try go_wp2_with (first | ((with_reducible refine gate_dst (N := 3) rfl ?_); refine box_event ?hg (N := 3) ?hd (cs := #[.int .i64 a1_0, .int .i64 a1_1]) (t := 71) ?hr ?_; (case hd => rfl); (case hg => rfl); (case hr => first | (go_simp; done) | (go_simp; rfl)); intro gb244 hg w3 hbox hb; have BK244 := sd_ (hbox); have GW244 := sd_ ((by rw [hg]; exact (below_size (bw0_ HB.out)) : w.heap.size ≤ gb244)); have GE244 := sd_ ((by rw [hg]; exact (below_size (bw0_ HB.out)) : w.heap.size ≤ gb244)); replace HB := sd_ (below_step (bw0_ HB.out) hb); clear hb hbox hg)))
 go_loopg [8] k (fun kq v8 w' => ∃ (x8_1 : Int), v8 = .int .i64 x8_1 ∧ Aside0 (slices_Index_2_int_2_int.l0 kq l0 (l0.length : Int) x8_1 a1_0 a1_1 = some r) ∧ Aside0 (kq ≤ k) ∧ Aside0 (w'.heap[gb244]? = some (.cells #[.int .i64 a1_0, .int .i64 a1_1] 71 (0, 0))) ∧ Aside0 (Below w.heap.size w w'))
 case atStart => exact ⟨(0), (by first | rfl | (simp; done) | (simp [*]; done)), H', ⟨Nat.le_refl _⟩, ⟨by (with_reducible repeat (first | refine blk_drewN ?_ _ | refine blk_drew ?_ | refine blk_alloc ?_ _)); exact BK244.out⟩, ⟨bw1_ HB.out GE244.out⟩⟩
 case round =>
  clear H'
  try clear p2
  obtain ⟨x8_1, rfl, HA, HK1, BK244, HB⟩ := hrel
  cases gk with
  | zero => exact absurd HA.out (by simp [slices_Index_2_int_2_int.l0])
  | succ k1 =>
   have H := HA.out
   clear HA
   simp only [slices_Index_2_int_2_int.l0] at H
   by_cases c4 : x8_1 < (l0.length : Int)
   ·rw [if_pos c4] at H
    have c4b0 : decide (x8_1 < (l0.length : Int)) = true := decide_eq_true c4
    clear c4
    by_cases c5 : 0 ≤ x8_1
    ·rw [if_pos c5] at H
     have c5b0 : decide (0 ≤ x8_1) = true := decide_eq_true c5
     clear c5
     by_cases c6 : x8_1 < (l0.length : Int)
     ·rw [if_pos c6] at H
      have c6b0 : decide (x8_1 < (l0.length : Int)) = true := decide_eq_true c6
      clear c6
      by_cases c7 : (a1_0 == ((rd_T71 l0 x8_1).f0) && (a1_1 == ((rd_T71 l0 x8_1).f1))) = true
      ·rw [if_pos c7] at H
       have c7b0 : (a1_0 == ((rd_T71 l0 x8_1).f0) && (a1_1 == ((rd_T71 l0 x8_1).f1))) = true := c7
       (try (have c7b1 : decide (a1_0 = ((rd_T71 l0 x8_1).f0) && (a1_1 == ((rd_T71 l0 x8_1).f1))) = true := by simpa using c7))
       (try (have c7b2 : (a1_0 == ((rd_T71 l0 x8_1).f0) && (a1_1 == ((rd_T71 l0 x8_1).f1))) = true := by simpa using c7))
       clear c7
       obtain rfl := Option.some.inj H
       have hcz8_0 : wr.cell? ⟨gb244, 0, none⟩ = some (.int .i64 a1_0) := (blk_cell BK244.out 0).trans rfl
       have hcz8_1 : wr.cell? ⟨gb244, 1, none⟩ = some (.int .i64 a1_1) := (blk_cell BK244.out 1).trans rfl
       have hfz8_0 := blk_frozen BK244.out 0
       have hfz8_1 := blk_frozen BK244.out 1
       have p245 : 0 ≤ (x8_1 : Int) := of_decide_eq_true (by first | (with_reducible assumption) | assumption)
       have q245 : x8_1 < (l0.length : Int) := of_decide_eq_true (by first | (with_reducible assumption) | assumption)
       obtain ⟨ad245, e245, hx245_0, hx245_1⟩ := at_T71 HR0.out x8_1 p245 q245
       cases e245
       replace hx245_0 := (HB.out.cell (World.block_lt_of_cell? w _ hx245_0)).trans hx245_0
       replace hx245_1 := (HB.out.cell (World.block_lt_of_cell? w _ hx245_1)).trans hx245_1
       replace p245 := eq_true p245
       replace q245 := eq_true q245
       go_wp2
       repeat (go_quiet (fail); try go_wp2)
       go_ret
       exact ⟨by first | rfl | (simp [errW_none, errW_some] <;> rfl) | (simp [*, errW_none, errW_some] <;> rfl), bw1_ HB.out GE244.out⟩
      ·rw [if_neg c7] at H
       have c7b0 : (a1_0 == ((rd_T71 l0 x8_1).f0) && (a1_1 == ((rd_T71 l0 x8_1).f1))) = false := by simpa using c7
       (try (have c7b1 : decide (a1_0 = ((rd_T71 l0 x8_1).f0) && (a1_1 == ((rd_T71 l0 x8_1).f1))) = false := by simpa using c7))
       (try (have c7b2 : (a1_0 == ((rd_T71 l0 x8_1).f0) && (a1_1 == ((rd_T71 l0 x8_1).f1))) = false := by simpa using c7))
       (try (have c7b3 : ¬ (a1_0 = ((rd_T71 l0 x8_1).f0) && (a1_1 == ((rd_T71 l0 x8_1).f1))) := by simpa using c7))
       clear c7
       have H' := sd_ H
       clear H
       have hcz9_0 : wr.cell? ⟨gb244, 0, none⟩ = some (.int .i64 a1_0) := (blk_cell BK244.out 0).trans rfl
       have hcz9_1 : wr.cell? ⟨gb244, 1, none⟩ = some (.int .i64 a1_1) := (blk_cell BK244.out 1).trans rfl
       have hfz9_0 := blk_frozen BK244.out 0
       have hfz9_1 := blk_frozen BK244.out 1
       have p245 : 0 ≤ (x8_1 : Int) := of_decide_eq_true (by first | (with_reducible assumption) | assumption)
       have q245 : x8_1 < (l0.length : Int) := of_decide_eq_true (by first | (with_reducible assumption) | assumption)
       obtain ⟨ad245, e245, hx245_0, hx245_1⟩ := at_T71 HR0.out x8_1 p245 q245
       cases e245
       replace hx245_0 := (HB.out.cell (World.block_lt_of_cell? w _ hx245_0)).trans hx245_0
       replace hx245_1 := (HB.out.cell (World.block_lt_of_cell? w _ hx245_1)).trans hx245_1
       replace p245 := eq_true p245
       replace q245 := eq_true q245
       go_wp2
       repeat (go_quiet (fail); try go_wp2)
       go_roundg k1
       case measure => have := HK1.out; omega
       case rel => exact ⟨(wrap64 (x8_1 + 1)), (by first | rfl | (simp; done) | (simp [*]; done)), H', ⟨by have := HK1.out; omega⟩, ⟨by (with_reducible repeat (first | refine blk_drewN ?_ _ | refine blk_drew ?_ | refine blk_alloc ?_ _)); exact BK244.out⟩, ⟨bw1_ HB.out GE244.out⟩⟩
     ·rw [if_neg c6] at H
      exact absurd H (by simp)
    ·rw [if_neg c5] at H
     exact absurd H (by simp)
   ·rw [if_neg c4] at H
    have c4b0 : decide (x8_1 < (l0.length : Int)) = false := decide_eq_false c4
    clear c4
    obtain rfl := Option.some.inj H
    go_wp2
    repeat (go_quiet (fail); try go_wp2)
    go_ret
    exact ⟨by first | rfl | (simp [errW_none, errW_some] <;> rfl) | (simp [*, errW_none, errW_some] <;> rfl), bw1_ HB.out GE244.out⟩

end Go.Proofs.Ytcdmnofomoadlaa.P
