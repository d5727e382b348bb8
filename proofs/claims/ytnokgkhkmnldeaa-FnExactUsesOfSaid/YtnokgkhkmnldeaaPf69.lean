-- Printed by this session's own program (wip/tools/mkprint.py) out of the translation. Not trusted: Lean checks it.
import Derived.Test.YtnokgkhkmnldeaaP0
/-! short words -/
namespace Go.Proofs.Ytnokgkhkmnldeaa.P
open Go.RowKit Go.Proofs.YtnokgkhkmnldeaaW.PrintWords Go.Proofs.YtnokgkhkmnldeaaW.PrintLast Go.Proofs.YtnokgkhkmnldeaaW.PrintMore
attribute [local go_sem] max2_int min2_int max_two min_two max_three min_three max_four min_four   -- for this text's walks alone
set_option linter.unusedVariables false
set_option linter.unusedSimpArgs false

/-! ### spec_l2Left: function 69 -/
mutual
def spec_l2Left.l0 : Nat → Int → Int → Int → Int → List Int → List (S48) → Option (Int)
 | 0, _, _, _, _, _, _ => none
 | k + 1, x1, x5, x549000, x549001, x549002, x549003 => if x5 < (x549003.length : Int) then (if x1 ≥ 0 then (if 0 ≤ x5 then ((spec_l2Left.f k ((rd_T48 x549003 x5).f0) ((rd_T48 x549003 x5).f1) ((rd_T48 x549003 x5).f2) ((rd_T48 x549003 x5).f3) x1).bind fun t550 => (spec_l2Left.l0 k t550 (wrap64 (x5 + 1)) x549000 x549001 x549002 x549003)) else (none)) else (some x1)) else (some x1)
def spec_l2Left.f : Nat → Int → Int → List Int → List (S48) → Int → Option (Int)
 | 0, _, _, _, _, _ => none
 | k + 1, a0_0, a0_1, l0_2, l0_3, a1 => spec_l2Left.l0 k (wrap64 (a1 - 1)) 0 a0_0 a0_1 l0_2 l0_3
end
set_option maxHeartbeats 8000000 in
set_option maxRecDepth 100000 in
theorem spec_l2Left.calls (k : Nat) : ∀ (a0_0 : Int) (a0_1 : Int) (A0_2 : Option Addr) (c0_2 : Nat) (l0_2 : List Int) (A0_3 : Option Addr) (c0_3 : Nat) (l0_3 : List (S48)) (a1 : Int) (r : Int) (w : World) (hr0_2 : Kd.C (Kd.int .i64) w A0_2 l0_2.length l0_2) (hc0_2 : l0_2.length ≤ c0_2) (hr0_3 : Kd.C k48 w A0_3 l0_3.length l0_3) (hc0_3 : l0_3.length ≤ c0_3) (h : spec_l2Left.f k a0_0 a0_1 l0_2 l0_3 a1 = some r),
  Calls Try.prog 69 #[.agg #[.int .i64 a0_0, .int .i64 a0_1, .slice A0_2 l0_2.length c0_2, .slice A0_3 l0_3.length c0_3], .int .i64 a1] w fun e w' => e = .returned (.int .i64 r) ∧ Below w.heap.size w w' := by
 induction k using Nat.strongRecOn with
 | _ k ih =>
 intro a0_0 a0_1 A0_2 c0_2 l0_2 A0_3 c0_3 l0_3 a1 r w hr0_2 hc0_2 hr0_3 hc0_3 h
 cases k with
 | zero => exact absurd h (by simp [spec_l2Left.f])
 | succ k =>
 simp only [spec_l2Left.f] at h
 have hu48 := Try.underlying48
 have HR0_2 := sd_ hr0_2
 have HC0_2 := sd_ hc0_2
 clear hr0_2 hc0_2
 have HR0_3 := sd_ hr0_3
 have HC0_3 := sd_ hc0_3
 clear hr0_3 hc0_3
 have HB := sd_ (Below.refl w.heap.size w)
 have H : (spec_l2Left.l0 k (wrap64 (a1 - 1)) 0 a0_0 a0_1 l0_2 l0_3) = some r := h
 clear h
 have H' := sd_ H
 clear H
 go_enter Try.func69, Try.ntmps69
 go_wp2_with (first | ((with_reducible refine gate_dst (N := 2) rfl ?_); refine box_event ?hg (N := 2) ?hd (cs := #[.int .i64 a0_0, .int .i64 a0_1, .slice A0_2 l0_2.length c0_2, .slice A0_3 l0_3.length c0_3]) (t := 48) ?hr ?_; (case hd => rfl); (case hg => rfl); (case hr => first | (go_simp; done) | (go_simp; rfl)); intro gb548 hg w3 hbox hb; have BK548 := sd_ (hbox); have GW548 := sd_ ((by rw [hg]; exact (below_size (bw0_ HB.out)) : w.heap.size ≤ gb548)); have GE548 := sd_ ((by rw [hg]; exact (below_size (bw0_ HB.out)) : w.heap.size ≤ gb548)); replace HB := sd_ (below_step (bw0_ HB.out) hb); clear hb hbox hg))
 go_loopg [1, 5] k (fun kq v1 v5 w' => ∃ (x1_1 : Int) (x5_1 : Int), v1 = .int .i64 x1_1 ∧ v5 = .int .i64 x5_1 ∧ Aside0 (spec_l2Left.l0 kq x1_1 x5_1 a0_0 a0_1 l0_2 l0_3 = some r) ∧ Aside0 (kq ≤ k) ∧ Aside0 (w'.heap[gb548]? = some (.cells #[.int .i64 a0_0, .int .i64 a0_1, (.slice A0_2 l0_2.length c0_2), (.slice A0_3 l0_3.length c0_3)] 48 (0, 0))) ∧ Aside0 (Below w.heap.size w w'))
 case atStart => exact ⟨(wrap64 (a1 - 1)), (0), (by first | rfl | (simp; done) | (simp [*]; done)), (by first | rfl | (simp; done) | (simp [*]; done)), H', ⟨Nat.le_refl _⟩, ⟨by (with_reducible repeat (first | refine blk_drewN ?_ _ | refine blk_drew ?_ | refine blk_alloc ?_ _)); exact BK548.out⟩, ⟨bw1_ HB.out GE548.out⟩⟩
 case round =>
  clear H'
  try clear p2
  obtain ⟨x1_1, x5_1, rfl, rfl, HA, HK1, BK548, HB⟩ := hrel
  cases gk with
  | zero => exact absurd HA.out (by simp [spec_l2Left.l0])
  | succ k1 =>
   have H := HA.out
   clear HA
   simp only [spec_l2Left.l0] at H
   by_cases c4 : x5_1 < (l0_3.length : Int)
   ·rw [if_pos c4] at H
    have c4b0 : decide (x5_1 < (l0_3.length : Int)) = true := decide_eq_true c4
    clear c4
    by_cases c5 : x1_1 ≥ 0
    ·rw [if_pos c5] at H
     have c5b0 : decide (0 ≤ x1_1) = true := decide_eq_true c5
     clear c5
     by_cases c6 : 0 ≤ x5_1
     ·rw [if_pos c6] at H
      have c6b0 : decide (0 ≤ x5_1) = true := decide_eq_true c6
      clear c6
      replace H := Option.bind_eq_some_iff.mp H
      obtain ⟨t550, A70, H⟩ := H
      replace H : (spec_l2Left.l0 k1 t550 (wrap64 (x5_1 + 1)) a0_0 a0_1 l0_2 l0_3) = some r := H
      have A7 := sd_ A70
      clear A70
      have H' := sd_ H
      clear H
      have hcz8_0 : wr.cell? ⟨gb548, 0, none⟩ = some (.int .i64 a0_0) := (blk_cell BK548.out 0).trans rfl
      have hcz8_1 : wr.cell? ⟨gb548, 1, none⟩ = some (.int .i64 a0_1) := (blk_cell BK548.out 1).trans rfl
      have hcz8_2 : wr.cell? ⟨gb548, 2, none⟩ = some (.slice A0_2 l0_2.length c0_2) := (blk_cell BK548.out 2).trans rfl
      have hcz8_3 : wr.cell? ⟨gb548, 3, none⟩ = some (.slice A0_3 l0_3.length c0_3) := (blk_cell BK548.out 3).trans rfl
      have hfz8_0 := blk_frozen BK548.out 0
      have hfz8_1 := blk_frozen BK548.out 1
      have hfz8_2 := blk_frozen BK548.out 2
      have hfz8_3 := blk_frozen BK548.out 3
      have p549 : 0 ≤ (x5_1 : Int) := of_decide_eq_true (by first | (with_reducible assumption) | assumption)
      have q549 : x5_1 < (l0_3.length : Int) := of_decide_eq_true (by first | (with_reducible assumption) | assumption)
      obtain ⟨ad549, A549_2, c549_2, A549_3, c549_3, e549, hx549_0, hx549_1, hx549_2, hx549_3, hl549_2, hi549_2, hl549_3, hi549_3⟩ := at_T48 HR0_3.out x5_1 p549 q549
      cases e549
      replace hx549_0 := (HB.out.cell (World.block_lt_of_cell? w _ hx549_0)).trans hx549_0
      replace hx549_1 := (HB.out.cell (World.block_lt_of_cell? w _ hx549_1)).trans hx549_1
      replace hx549_2 := (HB.out.cell (World.block_lt_of_cell? w _ hx549_2)).trans hx549_2
      replace hx549_3 := (HB.out.cell (World.block_lt_of_cell? w _ hx549_3)).trans hx549_3
      have HR549_2 := sd_ hi549_2
      have HC549_2 := sd_ hl549_2
      clear hi549_2 hl549_2
      have HR549_3 := sd_ hi549_3
      have HC549_3 := sd_ hl549_3
      clear hi549_3 hl549_3
      replace p549 := eq_true p549
      replace q549 := eq_true q549
      go_wp2_with (first | ((with_reducible refine gate_callee (f := 69) rfl ?_); refine goesL_ (some 25) rfl rfl Try.func69 (by kernel_rfl) rfl #[.agg #[.int .i64 ((rd_T48 l0_3 x5_1).f0), .int .i64 ((rd_T48 l0_3 x5_1).f1), .slice A549_2 ((rd_T48 l0_3 x5_1).f2).length c549_2, .slice A549_3 ((rd_T48 l0_3 x5_1).f3).length c549_3], .int .i64 x1_1] rfl (by (try simp only [List.map_toArray, List.map_cons, List.map_nil]); first | done | rfl | (simp only [List.length_drop, List.length_take]; rfl)) ?_; (with_reducible refine (ih k1 (by have := HK1.out; omega) ((rd_T48 l0_3 x5_1).f0) ((rd_T48 l0_3 x5_1).f1) _ _ ((rd_T48 l0_3 x5_1).f2) _ _ ((rd_T48 l0_3 x5_1).f3) x1_1 t550 _ ?side1 ?side2 ?side3 ?side4 A7.out).mono ?_); (case side1 => exact kc_ HR549_2.out HB.out); (case side2 => exact HC549_2.out); (case side3 => exact kc_ HR549_3.out HB.out); (case side4 => exact HC549_3.out); rintro e w9 ⟨rfl, hb⟩; refine ⟨_, rfl, ?_⟩; replace BK548 := sd_ (bb_ BK548.out hb); replace HB := sd_ (below_step (bw1_ HB.out GE548.out) hb); (try clear hb); (try clear hb2); (try clear hk); (try clear hi)))
      go_roundg k1
      case measure => have := HK1.out; omega
      case rel => exact ⟨(t550), (wrap64 (x5_1 + 1)), (by first | rfl | (simp; done) | (simp [*]; done)), (by first | rfl | (simp; done) | (simp [*]; done)), H', ⟨by have := HK1.out; omega⟩, ⟨by (with_reducible repeat (first | refine blk_drewN ?_ _ | refine blk_drew ?_ | refine blk_alloc ?_ _)); exact BK548.out⟩, ⟨bw1_ HB.out GE548.out⟩⟩
     ·rw [if_neg c6] at H
      exact absurd H (by simp)
    ·rw [if_neg c5] at H
     have c5b0 : decide (0 ≤ x1_1) = false := decide_eq_false c5
     clear c5
     obtain rfl := Option.some.inj H
     have hcz10_0 : wr.cell? ⟨gb548, 0, none⟩ = some (.int .i64 a0_0) := (blk_cell BK548.out 0).trans rfl
     have hcz10_1 : wr.cell? ⟨gb548, 1, none⟩ = some (.int .i64 a0_1) := (blk_cell BK548.out 1).trans rfl
     have hcz10_2 : wr.cell? ⟨gb548, 2, none⟩ = some (.slice A0_2 l0_2.length c0_2) := (blk_cell BK548.out 2).trans rfl
     have hcz10_3 : wr.cell? ⟨gb548, 3, none⟩ = some (.slice A0_3 l0_3.length c0_3) := (blk_cell BK548.out 3).trans rfl
     have hfz10_0 := blk_frozen BK548.out 0
     have hfz10_1 := blk_frozen BK548.out 1
     have hfz10_2 := blk_frozen BK548.out 2
     have hfz10_3 := blk_frozen BK548.out 3
     go_wp2
     go_ret
     exact ⟨by first | rfl | (simp [errW_none, errW_some] <;> rfl) | (simp [*, errW_none, errW_some] <;> rfl), bw1_ HB.out GE548.out⟩
   ·rw [if_neg c4] at H
    have c4b0 : decide (x5_1 < (l0_3.length : Int)) = false := decide_eq_false c4
    clear c4
    obtain rfl := Option.some.inj H
    have hcz11_0 : wr.cell? ⟨gb548, 0, none⟩ = some (.int .i64 a0_0) := (blk_cell BK548.out 0).trans rfl
    have hcz11_1 : wr.cell? ⟨gb548, 1, none⟩ = some (.int .i64 a0_1) := (blk_cell BK548.out 1).trans rfl
    have hcz11_2 : wr.cell? ⟨gb548, 2, none⟩ = some (.slice A0_2 l0_2.length c0_2) := (blk_cell BK548.out 2).trans rfl
    have hcz11_3 : wr.cell? ⟨gb548, 3, none⟩ = some (.slice A0_3 l0_3.length c0_3) := (blk_cell BK548.out 3).trans rfl
    have hfz11_0 := blk_frozen BK548.out 0
    have hfz11_1 := blk_frozen BK548.out 1
    have hfz11_2 := blk_frozen BK548.out 2
    have hfz11_3 := blk_frozen BK548.out 3
    go_wp2
    go_ret
    exact ⟨by first | rfl | (simp [errW_none, errW_some] <;> rfl) | (simp [*, errW_none, errW_some] <;> rfl), bw1_ HB.out GE548.out⟩

end Go.Proofs.Ytnokgkhkmnldeaa.P
