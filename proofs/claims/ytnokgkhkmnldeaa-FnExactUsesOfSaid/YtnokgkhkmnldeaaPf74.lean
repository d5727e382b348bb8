-- Printed by this session's own program (wip/tools/mkprint.py) out of the translation. Not trusted: Lean checks it.
import Derived.Test.YtnokgkhkmnldeaaP0
import Derived.Test.YtnokgkhkmnldeaaPf100
/-! short words -/
namespace Go.Proofs.Ytnokgkhkmnldeaa.P
open Go.RowKit Go.Proofs.YtnokgkhkmnldeaaW.PrintWords Go.Proofs.YtnokgkhkmnldeaaW.PrintLast Go.Proofs.YtnokgkhkmnldeaaW.PrintMore
attribute [local go_sem] max2_int min2_int max_two min_two max_three min_three max_four min_four   -- for this text's walks alone
set_option linter.unusedVariables false
set_option linter.unusedSimpArgs false

/-! ### spec_l2Uses: function 74 -/
mutual
def spec_l2Uses.l0 : Nat → Int → Int → Int → Int → Int → List Int → List (S48) → Option (Int)
 | 0, _, _, _, _, _, _, _ => none
 | k + 1, x1, x5, x6, x693000, x693001, x693002, x693003 => if x6 < (x693003.length : Int) then (if 0 ≤ x6 then ((spec_l2Adds.f k x693000 x6).bind fun t694 => ((spec_l2Uses.f k ((rd_T48 x693003 x6).f0) ((rd_T48 x693003 x6).f1) ((rd_T48 x693003 x6).f2) ((rd_T48 x693003 x6).f3) (wrap64 (x1 + t694))).bind fun t695 => (spec_l2Uses.l0 k x1 (wrap64 (x5 + t695)) (wrap64 (x6 + 1)) x693000 x693001 x693002 x693003))) else (none)) else (some x5)
def spec_l2Uses.f : Nat → Int → Int → List Int → List (S48) → Int → Option (Int)
 | 0, _, _, _, _, _ => none
 | k + 1, a0_0, a0_1, l0_2, l0_3, a1 => if a0_0 = 0 then (if a0_1 = a1 then (some 1) else (some 0)) else (spec_l2Uses.l0 k a1 0 0 a0_0 a0_1 l0_2 l0_3)
end
def spec_l2Uses.T9 : Bool × List (List Nat × List Nat) := (true, [([], []), ([], []), ([1], [1]), ([], []), ([2, 3], [2, 3]), ([4], [4]), ([], []), ([], []), ([7], [7]), ([], []), ([8, 9], [8, 9]), ([6, 10], [6, 10]), ([5, 11, 10], [5, 11]), ([0, 12], [0, 12]), ([13, 12, 0, 1, 2, 3, 4, 5, 6, 7, 8, 9, 10, 11, 12, 13], [0, 13])])
def spec_l2Uses.B9 : List Nat := [0, 0, 2, 0, 14, 30, 0, 0, 128, 0, 896, 1984, 4094, 8191, 16383]
theorem spec_l2Uses.tab9 : rtab .any (opsOf Try.f74 9) = spec_l2Uses.T9 := by kernel_rfl
theorem spec_l2Uses.bits9 : waitsOk spec_l2Uses.T9.2 spec_l2Uses.B9 = true := by kernel_rfl
set_option maxHeartbeats 8000000 in
set_option maxRecDepth 100000 in
theorem spec_l2Uses.calls (k : Nat) : ∀ (a0_0 : Int) (a0_1 : Int) (A0_2 : Option Addr) (c0_2 : Nat) (l0_2 : List Int) (A0_3 : Option Addr) (c0_3 : Nat) (l0_3 : List (S48)) (a1 : Int) (r : Int) (w : World) (hr0_2 : Kd.C (Kd.int .i64) w A0_2 l0_2.length l0_2) (hc0_2 : l0_2.length ≤ c0_2) (hr0_3 : Kd.C k48 w A0_3 l0_3.length l0_3) (hc0_3 : l0_3.length ≤ c0_3) (h : spec_l2Uses.f k a0_0 a0_1 l0_2 l0_3 a1 = some r),
  Calls Try.prog 74 #[.agg #[.int .i64 a0_0, .int .i64 a0_1, .slice A0_2 l0_2.length c0_2, .slice A0_3 l0_3.length c0_3], .int .i64 a1] w fun e w' => e = .returned (.int .i64 r) ∧ Below w.heap.size w w' := by
 induction k using Nat.strongRecOn with
 | _ k ih =>
 intro a0_0 a0_1 A0_2 c0_2 l0_2 A0_3 c0_3 l0_3 a1 r w hr0_2 hc0_2 hr0_3 hc0_3 h
 cases k with
 | zero => exact absurd h (by simp [spec_l2Uses.f])
 | succ k =>
 simp only [spec_l2Uses.f] at h
 have hu48 := Try.underlying48
 have HR0_2 := sd_ hr0_2
 have HC0_2 := sd_ hc0_2
 clear hr0_2 hc0_2
 have HR0_3 := sd_ hr0_3
 have HC0_3 := sd_ hc0_3
 clear hr0_3 hc0_3
 have HB := sd_ (Below.refl w.heap.size w)
 have H : (if a0_0 = 0 then (if a0_1 = a1 then (some 1) else (some 0)) else (spec_l2Uses.l0 k a1 0 0 a0_0 a0_1 l0_2 l0_3)) = some r := h
 clear h
 by_cases c3 : a0_0 = 0
 ·rw [if_pos c3] at H
  have c3b0 : (a0_0 == 0) = true := beq_iff_eq.mpr c3
  have c3b1 : (a0_0 != 0) = false := bne_eq_false_iff_eq.mpr c3
  clear c3
  by_cases c4 : a0_1 = a1
  ·rw [if_pos c4] at H
   have c4b0 : (a0_1 == a1) = true := beq_iff_eq.mpr c4
   have c4b1 : (a0_1 != a1) = false := bne_eq_false_iff_eq.mpr c4
   clear c4
   obtain rfl := Option.some.inj H
   go_enter Try.func74, Try.ntmps74
   go_wp2_with (first | ((with_reducible refine gate_dst (N := 2) rfl ?_); refine box_event ?hg (N := 2) ?hd (cs := #[.int .i64 a0_0, .int .i64 a0_1, .slice A0_2 l0_2.length c0_2, .slice A0_3 l0_3.length c0_3]) (t := 48) ?hr ?_; (case hd => rfl); (case hg => rfl); (case hr => first | (go_simp; done) | (go_simp; rfl)); intro gb692 hg w5 hbox hb; have BK692 := sd_ (hbox); have GW692 := sd_ ((by rw [hg]; exact (below_size (bw0_ HB.out)) : w.heap.size ≤ gb692)); have GE692 := sd_ ((by rw [hg]; exact (below_size (bw0_ HB.out)) : w.heap.size ≤ gb692)); replace HB := sd_ (below_step (bw0_ HB.out) hb); clear hb hbox hg; have hcz6_0 : w5.cell? ⟨gb692, 0, none⟩ = some (.int .i64 a0_0) := (blk_cell BK692.out 0).trans rfl; have hcz6_1 : w5.cell? ⟨gb692, 1, none⟩ = some (.int .i64 a0_1) := (blk_cell BK692.out 1).trans rfl; have hcz6_2 : w5.cell? ⟨gb692, 2, none⟩ = some (.slice A0_2 l0_2.length c0_2) := (blk_cell BK692.out 2).trans rfl; have hcz6_3 : w5.cell? ⟨gb692, 3, none⟩ = some (.slice A0_3 l0_3.length c0_3) := (blk_cell BK692.out 3).trans rfl; have hfz6_0 := blk_frozen BK692.out 0; have hfz6_1 := blk_frozen BK692.out 1; have hfz6_2 := blk_frozen BK692.out 2; have hfz6_3 := blk_frozen BK692.out 3))
   go_ret
   exact ⟨by first | rfl | (simp [errW_none, errW_some] <;> rfl) | (simp [*, errW_none, errW_some] <;> rfl), bw1_ HB.out GE692.out⟩
  ·rw [if_neg c4] at H
   have c4b0 : (a0_1 == a1) = false := beq_eq_false_iff_ne.mpr c4
   have c4b1 : (a0_1 != a1) = true := bne_iff_ne.mpr c4
   obtain rfl := Option.some.inj H
   go_enter Try.func74, Try.ntmps74
   go_wp2_with (first | ((with_reducible refine gate_dst (N := 2) rfl ?_); refine box_event ?hg (N := 2) ?hd (cs := #[.int .i64 a0_0, .int .i64 a0_1, .slice A0_2 l0_2.length c0_2, .slice A0_3 l0_3.length c0_3]) (t := 48) ?hr ?_; (case hd => rfl); (case hg => rfl); (case hr => first | (go_simp; done) | (go_simp; rfl)); intro gb692 hg w7 hbox hb; have BK692 := sd_ (hbox); have GW692 := sd_ ((by rw [hg]; exact (below_size (bw0_ HB.out)) : w.heap.size ≤ gb692)); have GE692 := sd_ ((by rw [hg]; exact (below_size (bw0_ HB.out)) : w.heap.size ≤ gb692)); replace HB := sd_ (below_step (bw0_ HB.out) hb); clear hb hbox hg; have hcz8_0 : w7.cell? ⟨gb692, 0, none⟩ = some (.int .i64 a0_0) := (blk_cell BK692.out 0).trans rfl; have hcz8_1 : w7.cell? ⟨gb692, 1, none⟩ = some (.int .i64 a0_1) := (blk_cell BK692.out 1).trans rfl; have hcz8_2 : w7.cell? ⟨gb692, 2, none⟩ = some (.slice A0_2 l0_2.length c0_2) := (blk_cell BK692.out 2).trans rfl; have hcz8_3 : w7.cell? ⟨gb692, 3, none⟩ = some (.slice A0_3 l0_3.length c0_3) := (blk_cell BK692.out 3).trans rfl; have hfz8_0 := blk_frozen BK692.out 0; have hfz8_1 := blk_frozen BK692.out 1; have hfz8_2 := blk_frozen BK692.out 2; have hfz8_3 := blk_frozen BK692.out 3))
   go_ret
   exact ⟨by first | rfl | (simp [errW_none, errW_some] <;> rfl) | (simp [*, errW_none, errW_some] <;> rfl), bw1_ HB.out GE692.out⟩
 ·rw [if_neg c3] at H
  have c3b0 : (a0_0 == 0) = false := beq_eq_false_iff_ne.mpr c3
  have c3b1 : (a0_0 != 0) = true := bne_iff_ne.mpr c3
  have H' := sd_ H
  clear H
  go_enter Try.func74, Try.ntmps74
  go_wp2_with (first | ((with_reducible refine gate_dst (N := 2) rfl ?_); refine box_event ?hg (N := 2) ?hd (cs := #[.int .i64 a0_0, .int .i64 a0_1, .slice A0_2 l0_2.length c0_2, .slice A0_3 l0_3.length c0_3]) (t := 48) ?hr ?_; (case hd => rfl); (case hg => rfl); (case hr => first | (go_simp; done) | (go_simp; rfl)); intro gb692 hg w9 hbox hb; have BK692 := sd_ (hbox); have GW692 := sd_ ((by rw [hg]; exact (below_size (bw0_ HB.out)) : w.heap.size ≤ gb692)); have GE692 := sd_ ((by rw [hg]; exact (below_size (bw0_ HB.out)) : w.heap.size ≤ gb692)); replace HB := sd_ (below_step (bw0_ HB.out) hb); clear hb hbox hg; have hcz10_0 : w9.cell? ⟨gb692, 0, none⟩ = some (.int .i64 a0_0) := (blk_cell BK692.out 0).trans rfl; have hcz10_1 : w9.cell? ⟨gb692, 1, none⟩ = some (.int .i64 a0_1) := (blk_cell BK692.out 1).trans rfl; have hcz10_2 : w9.cell? ⟨gb692, 2, none⟩ = some (.slice A0_2 l0_2.length c0_2) := (blk_cell BK692.out 2).trans rfl; have hcz10_3 : w9.cell? ⟨gb692, 3, none⟩ = some (.slice A0_3 l0_3.length c0_3) := (blk_cell BK692.out 3).trans rfl; have hfz10_0 := blk_frozen BK692.out 0; have hfz10_1 := blk_frozen BK692.out 1; have hfz10_2 := blk_frozen BK692.out 2; have hfz10_3 := blk_frozen BK692.out 3))
  go_loopg [5, 6] k (fun kq v5 v6 w' => ∃ (x5_1 : Int) (x6_1 : Int), v5 = .int .i64 x5_1 ∧ v6 = .int .i64 x6_1 ∧ Aside0 (spec_l2Uses.l0 kq a1 x5_1 x6_1 a0_0 a0_1 l0_2 l0_3 = some r) ∧ Aside0 (kq ≤ k) ∧ Aside0 (w'.heap[gb692]? = some (.cells #[.int .i64 a0_0, .int .i64 a0_1, (.slice A0_2 l0_2.length c0_2), (.slice A0_3 l0_3.length c0_3)] 48 (0, 0))) ∧ Aside0 (Below w.heap.size w w'))
  case atStart => exact ⟨(0), (0), (by first | rfl | (simp; done) | (simp [*]; done)), (by first | rfl | (simp; done) | (simp [*]; done)), H', ⟨Nat.le_refl _⟩, ⟨by (with_reducible repeat (first | refine blk_drewN ?_ _ | refine blk_drew ?_ | refine blk_alloc ?_ _)); exact BK692.out⟩, ⟨bw1_ HB.out GE692.out⟩⟩
  case round =>
   clear H'
   try clear p2
   try clear c3
   try clear c3b0
   try clear c3b1
   try clear c7
   try clear hcz10_0
   try clear hcz10_1
   try clear hcz10_2
   try clear hcz10_3
   try clear hfz10_0
   try clear hfz10_1
   try clear hfz10_2
   try clear hfz10_3
   obtain ⟨x5_1, x6_1, rfl, rfl, HA, HK1, BK692, HB⟩ := hrel
   cases gk with
   | zero => exact absurd HA.out (by simp [spec_l2Uses.l0])
   | succ k1 =>
    have H := HA.out
    clear HA
    simp only [spec_l2Uses.l0] at H
    by_cases c11 : x6_1 < (l0_3.length : Int)
    ·rw [if_pos c11] at H
     have c11b0 : decide (x6_1 < (l0_3.length : Int)) = true := decide_eq_true c11
     clear c11
     by_cases c12 : 0 ≤ x6_1
     ·rw [if_pos c12] at H
      have c12b0 : decide (0 ≤ x6_1) = true := decide_eq_true c12
      clear c12
      replace H := Option.bind_eq_some_iff.mp H
      obtain ⟨t694, A130, H⟩ := H
      replace H : ((spec_l2Uses.f k1 ((rd_T48 l0_3 x6_1).f0) ((rd_T48 l0_3 x6_1).f1) ((rd_T48 l0_3 x6_1).f2) ((rd_T48 l0_3 x6_1).f3) (wrap64 (a1 + t694))).bind fun t695 => (spec_l2Uses.l0 k1 a1 (wrap64 (x5_1 + t695)) (wrap64 (x6_1 + 1)) a0_0 a0_1 l0_2 l0_3)) = some r := H
      have A13 := sd_ A130
      clear A130
      replace H := Option.bind_eq_some_iff.mp H
      obtain ⟨t695, A140, H⟩ := H
      replace H : (spec_l2Uses.l0 k1 a1 (wrap64 (x5_1 + t695)) (wrap64 (x6_1 + 1)) a0_0 a0_1 l0_2 l0_3) = some r := H
      have A14 := sd_ A140
      clear A140
      have H' := sd_ H
      clear H
      have hcz15_0 : wr.cell? ⟨gb692, 0, none⟩ = some (.int .i64 a0_0) := (blk_cell BK692.out 0).trans rfl
      have hcz15_1 : wr.cell? ⟨gb692, 1, none⟩ = some (.int .i64 a0_1) := (blk_cell BK692.out 1).trans rfl
      have hcz15_2 : wr.cell? ⟨gb692, 2, none⟩ = some (.slice A0_2 l0_2.length c0_2) := (blk_cell BK692.out 2).trans rfl
      have hcz15_3 : wr.cell? ⟨gb692, 3, none⟩ = some (.slice A0_3 l0_3.length c0_3) := (blk_cell BK692.out 3).trans rfl
      have hfz15_0 := blk_frozen BK692.out 0
      have hfz15_1 := blk_frozen BK692.out 1
      have hfz15_2 := blk_frozen BK692.out 2
      have hfz15_3 := blk_frozen BK692.out 3
      try go_wp2
      replace BK692 := sd_ (blk_drew BK692.out)
      replace HB := sd_ (below_drew1 HB.out)
      have p693 : 0 ≤ (x6_1 : Int) := of_decide_eq_true (by first | (with_reducible assumption) | assumption)
      have q693 : x6_1 < (l0_3.length : Int) := of_decide_eq_true (by first | (with_reducible assumption) | assumption)
      obtain ⟨ad693, A693_2, c693_2, A693_3, c693_3, e693, hx693_0, hx693_1, hx693_2, hx693_3, hl693_2, hi693_2, hl693_3, hi693_3⟩ := at_T48 HR0_3.out x6_1 p693 q693
      have hw693_3 := hx693_3
      have hw693_2 := hx693_2
      have hw693_1 := hx693_1
      have hw693_0 := hx693_0
      cases e693
      replace hx693_0 := (HB.out.cell (World.block_lt_of_cell? w _ hx693_0)).trans hx693_0
      replace hx693_1 := (HB.out.cell (World.block_lt_of_cell? w _ hx693_1)).trans hx693_1
      replace hx693_2 := (HB.out.cell (World.block_lt_of_cell? w _ hx693_2)).trans hx693_2
      replace hx693_3 := (HB.out.cell (World.block_lt_of_cell? w _ hx693_3)).trans hx693_3
      have HR693_2 := sd_ hi693_2
      have HC693_2 := sd_ hl693_2
      clear hi693_2 hl693_2
      have HR693_3 := sd_ hi693_3
      have HC693_3 := sd_ hl693_3
      clear hi693_3 hl693_3
      replace p693 := eq_true p693
      replace q693 := eq_true q693
      refine start_ (n := 15) (S := fun w' => w'.cell? ⟨gb692, 0, none⟩ = some (.int .i64 a0_0) ∧ w'.cell? ⟨gb692, 1, none⟩ = some (.int .i64 a0_1) ∧ w'.cell? ⟨gb692, 2, none⟩ = some (.slice A0_2 l0_2.length c0_2) ∧ w'.cell? ⟨gb692, 3, none⟩ = some (.slice (some ad693) l0_3.length c0_3) ∧ w'.cell? (ad693.add ((x6_1).toNat * 4)) = some (.int .i64 ((rd_T48 l0_3 x6_1).f0)) ∧ w'.cell? ⟨(ad693.add ((x6_1).toNat * 4)).block, (ad693.add ((x6_1).toNat * 4)).off + 1, none⟩ = some (.int .i64 ((rd_T48 l0_3 x6_1).f1)) ∧ w'.cell? ⟨(ad693.add ((x6_1).toNat * 4)).block, (ad693.add ((x6_1).toNat * 4)).off + 2, none⟩ = some (.slice A693_2 ((rd_T48 l0_3 x6_1).f2).length c693_2) ∧ w'.cell? ⟨(ad693.add ((x6_1).toNat * 4)).block, (ad693.add ((x6_1).toNat * 4)).off + 3, none⟩ = some (.slice A693_3 ((rd_T48 l0_3 x6_1).f3).length c693_3)) (ds := []) #[false, false, false, false, false, false, false, false, false, false, false, false, false, false, false] (by kernel_rfl) rfl rfl ⟨(blk_cell BK692.out 0).trans rfl, (blk_cell BK692.out 1).trans rfl, (blk_cell BK692.out 2).trans rfl, (blk_cell BK692.out 3).trans rfl, ((HB.out.cell (World.block_lt_of_cell? w _ hw693_0)).trans hw693_0), ((HB.out.cell (World.block_lt_of_cell? w _ hw693_1)).trans hw693_1), ((HB.out.cell (World.block_lt_of_cell? w _ hw693_2)).trans hw693_2), ((HB.out.cell (World.block_lt_of_cell? w _ hw693_3)).trans hw693_3)⟩ (fun hHeld => ?_); refine with_tabW spec_l2Uses.tab9 spec_l2Uses.bits9 (fun HT_ HW_ => ?_)
      generalize wr.drew = w16 at BK692 HB HR693_2 HR693_3 hx693_0 hx693_1 hx693_2 hx693_3 hHeld ⊢
      refine pure_ (i := 0) (N := some 21) (v := ?_) (a' := ?_) #[true, false, false, false, false, false, false, false, false, false, false, false, false, false, false] rfl rfl (any_of HT_.out (by kernel_rfl)) (fun _ _ _ h => h) (Or.inl ⟨by rfl, ?_⟩) ?_ ?_
      rotate_left
      ·intro w'
       go_simp
       with_reducible rfl
      rotate_left
      ·simp only [Act.put, List.setIfInBounds_toArray, List.set_cons_zero, List.set_cons_succ, i64_w, i32_w]
       rfl
      refine pure_ (i := 1) (N := some 22) (v := ?_) (a' := ?_) #[true, true, false, false, false, false, false, false, false, false, false, false, false, false, false] rfl rfl (any_of HT_.out (by kernel_rfl)) (fun _ _ _ h => h) (Or.inl ⟨by rfl, ?_⟩) ?_ ?_
      rotate_left
      ·intro w'
       go_simp
       with_reducible rfl
      rotate_left
      ·simp only [Act.put, List.setIfInBounds_toArray, List.set_cons_zero, List.set_cons_succ, i64_w, i32_w]
       rfl
      refine pure_ (i := 3) (N := some 24) (v := ?_) (a' := ?_) #[true, true, false, true, false, false, false, false, false, false, false, false, false, false, false] rfl rfl (any_of HT_.out (by kernel_rfl)) (fun _ _ _ h => h) (Or.inl ⟨by rfl, ?_⟩) ?_ ?_
      rotate_left
      ·intro w'
       go_simp
       with_reducible rfl
      rotate_left
      ·simp only [Act.put, List.setIfInBounds_toArray, List.set_cons_zero, List.set_cons_succ, i64_w, i32_w]
       rfl
      refine pure_ (i := 6) (N := some 27) (v := ?_) (a' := ?_) #[true, true, false, true, false, false, true, false, false, false, false, false, false, false, false] rfl rfl (any_of HT_.out (by kernel_rfl)) (fun _ _ _ h => h) (Or.inl ⟨by rfl, ?_⟩) ?_ ?_
      rotate_left
      ·intro w'
       go_simp
       with_reducible rfl
      rotate_left
      ·simp only [Act.put, List.setIfInBounds_toArray, List.set_cons_zero, List.set_cons_succ, i64_w, i32_w]
       rfl
      refine pure_ (i := 7) (N := some 28) (v := ?_) (a' := ?_) #[true, true, false, true, false, false, true, true, false, false, false, false, false, false, false] rfl rfl (any_of HT_.out (by kernel_rfl)) (fun _ _ _ h => h) (Or.inl ⟨by rfl, ?_⟩) ?_ ?_
      rotate_left
      ·intro w'
       go_simp
       with_reducible rfl
      rotate_left
      ·simp only [Act.put, List.setIfInBounds_toArray, List.set_cons_zero, List.set_cons_succ, i64_w, i32_w]
       rfl
      refine pure_ (i := 9) (N := some 30) (v := ?_) (a' := ?_) #[true, true, false, true, false, false, true, true, false, true, false, false, false, false, false] rfl rfl (any_of HT_.out (by kernel_rfl)) (fun _ _ _ h => h) (Or.inl ⟨by rfl, ?_⟩) ?_ ?_
      rotate_left
      ·intro w'
       go_simp
       with_reducible rfl
      rotate_left
      ·simp only [Act.put, List.setIfInBounds_toArray, List.set_cons_zero, List.set_cons_succ, i64_w, i32_w]
       rfl
      refine take_ (i := 2) (N := some 23) (v := ?_) (a' := ?_) #[true, true, true, true, false, false, true, true, false, true, false, false, false, false, false] rfl rfl (take_ofW HT_.out HW_.out (by kernel_rfl)) (fun _ _ _ h => h) (Or.inl ⟨by rfl, ?_⟩) hHeld ?_ ?_
      rotate_left
      ·rintro w' ⟨s0, s1, s2, s3, s4, s5, s6, s7⟩
       go_simp
       with_reducible rfl
      rotate_left
      ·simp only [Act.put, List.setIfInBounds_toArray, List.set_cons_zero, List.set_cons_succ, i64_w, i32_w]
       rfl
      refine pure_ (i := 4) (N := some 25) (v := ?_) (a' := ?_) #[true, true, true, true, true, false, true, true, false, true, false, false, false, false, false] rfl rfl (any_of HT_.out (by kernel_rfl)) (fun _ _ _ h => h) (Or.inl ⟨by rfl, ?_⟩) ?_ ?_
      rotate_left
      ·intro w'
       go_simp
       with_reducible rfl
      rotate_left
      ·simp only [Act.put, List.setIfInBounds_toArray, List.set_cons_zero, List.set_cons_succ, i64_w, i32_w]
       rfl
      refine take_ (i := 5) (N := some 26) (v := ?_) (a' := ?_) #[true, true, true, true, true, true, true, true, false, true, false, false, false, false, false] rfl rfl (take_ofW HT_.out HW_.out (by kernel_rfl)) (fun _ _ _ h => h) (Or.inl ⟨by rfl, ?_⟩) hHeld ?_ ?_
      rotate_left
      ·rintro w' ⟨s0, s1, s2, s3, s4, s5, s6, s7⟩
       go_simp
       with_reducible rfl
      rotate_left
      ·simp only [Act.put, List.setIfInBounds_toArray, List.set_cons_zero, List.set_cons_succ, i64_w, i32_w]
       rfl
      refine take_ (i := 8) (N := some 29) (v := ?_) (a' := ?_) #[true, true, true, true, true, true, true, true, true, true, false, false, false, false, false] rfl rfl (take_ofW HT_.out HW_.out (by kernel_rfl)) (fun _ _ _ h => h) (Or.inl ⟨by rfl, ?_⟩) hHeld ?_ ?_
      rotate_left
      ·rintro w' ⟨s0, s1, s2, s3, s4, s5, s6, s7⟩
       go_simp
       with_reducible rfl
      rotate_left
      ·simp only [Act.put, List.setIfInBounds_toArray, List.set_cons_zero, List.set_cons_succ, i64_w, i32_w]
       rfl
      refine one_ (i := 10) (N := some 31) #[true, true, true, true, true, true, true, true, true, true, true, false, false, false, false] rfl rfl (one_of HT_.out (by kernel_rfl)) (by decide) (fun K hK => ?_)
      refine goes_ Try.func100 (by kernel_rfl) rfl #[.int .i64 a0_0, .int .i64 x6_1] (by rfl) rfl rfl (by (try simp only [List.map_toArray, List.map_cons, List.map_nil]); first | done | rfl | (simp only [List.length_drop, List.length_take]; rfl)) ?_
      with_reducible refine (spec_l2Adds.calls k1 a0_0 x6_1 t694 _ A13.out).mono ?_
      rintro e w' ⟨rfl, ⟨nd, rfl⟩⟩
      refine ⟨_, rfl, ?_⟩
      refine hK.out _ _ ⟨(blk_cell BK692.out 0).trans rfl, (blk_cell BK692.out 1).trans rfl, (blk_cell BK692.out 2).trans rfl, (blk_cell BK692.out 3).trans rfl, ((HB.out.cell (World.block_lt_of_cell? w _ hw693_0)).trans hw693_0), ((HB.out.cell (World.block_lt_of_cell? w _ hw693_1)).trans hw693_1), ((HB.out.cell (World.block_lt_of_cell? w _ hw693_2)).trans hw693_2), ((HB.out.cell (World.block_lt_of_cell? w _ hw693_3)).trans hw693_3)⟩ (fun hHeld => ?_)
      clear hK K
      refine norm_ (a' := ?_) ?_ ?_
      rotate_left
      ·show Act.put _ (some 31) _ = _
       simp only [Act.put, List.setIfInBounds_toArray, List.set_cons_zero, List.set_cons_succ, i64_w, i32_w]
       rfl
      refine pure_ (i := 11) (N := some 32) (v := ?_) (a' := ?_) #[true, true, true, true, true, true, true, true, true, true, true, true, false, false, false] rfl rfl (any_of HT_.out (by kernel_rfl)) (fun _ _ _ h => h) (Or.inl ⟨by rfl, ?_⟩) ?_ ?_
      rotate_left
      ·intro w'
       go_simp
       with_reducible rfl
      rotate_left
      ·simp only [Act.put, List.setIfInBounds_toArray, List.set_cons_zero, List.set_cons_succ, i64_w, i32_w]
       rfl
      refine one_ (i := 12) (N := some 33) #[true, true, true, true, true, true, true, true, true, true, true, true, true, false, false] rfl rfl (one_of HT_.out (by kernel_rfl)) (by decide) (fun K hK => ?_)
      refine goes_ Try.func74 (by kernel_rfl) rfl #[.agg #[.int .i64 ((rd_T48 l0_3 x6_1).f0), .int .i64 ((rd_T48 l0_3 x6_1).f1), .slice A693_2 ((rd_T48 l0_3 x6_1).f2).length c693_2, .slice A693_3 ((rd_T48 l0_3 x6_1).f3).length c693_3], .int .i64 (wrap64 (a1 + t694))] (by rfl) rfl rfl (by (try simp only [List.map_toArray, List.map_cons, List.map_nil]); first | done | rfl | (simp only [List.length_drop, List.length_take]; rfl)) ?_
      with_reducible refine (ih k1 (by have := HK1.out; omega) ((rd_T48 l0_3 x6_1).f0) ((rd_T48 l0_3 x6_1).f1) _ _ ((rd_T48 l0_3 x6_1).f2) _ _ ((rd_T48 l0_3 x6_1).f3) (wrap64 (a1 + t694)) t695 _ ?side1 ?side2 ?side3 ?side4 A14.out).mono ?_
      (case side1 => repeat (first | exact (Kd.C_below HR693_2.out (bw1_ HB.out GE692.out)) | (with_reducible refine Kd.C_alloc ?_ _) | (with_reducible refine Kd.C_drewN ?_ _) | (with_reducible refine Kd.C_drew ?_)))
      (case side2 => exact HC693_2.out)
      (case side3 => repeat (first | exact (Kd.C_below HR693_3.out (bw1_ HB.out GE692.out)) | (with_reducible refine Kd.C_alloc ?_ _) | (with_reducible refine Kd.C_drewN ?_ _) | (with_reducible refine Kd.C_drew ?_)))
      (case side4 => exact HC693_3.out)
      rintro e w17 ⟨rfl, hb⟩
      refine ⟨_, rfl, ?_⟩
      replace BK692 := sd_ (bb_ BK692.out hb)
      replace HB := sd_ (below_step (bw1_ HB.out GE692.out) hb)
      (try clear hb)
      (try clear hb2)
      (try clear hk)
      (try clear hi)
      refine hK.out _ _ ⟨(blk_cell BK692.out 0).trans rfl, (blk_cell BK692.out 1).trans rfl, (blk_cell BK692.out 2).trans rfl, (blk_cell BK692.out 3).trans rfl, ((HB.out.cell (World.block_lt_of_cell? w _ hw693_0)).trans hw693_0), ((HB.out.cell (World.block_lt_of_cell? w _ hw693_1)).trans hw693_1), ((HB.out.cell (World.block_lt_of_cell? w _ hw693_2)).trans hw693_2), ((HB.out.cell (World.block_lt_of_cell? w _ hw693_3)).trans hw693_3)⟩ (fun hHeld => ?_)
      clear hK K
      refine norm_ (a' := ?_) ?_ ?_
      rotate_left
      ·show Act.put _ (some 33) _ = _
       simp only [Act.put, List.setIfInBounds_toArray, List.set_cons_zero, List.set_cons_succ, i64_w, i32_w]
       rfl
      refine pure_ (i := 13) (N := some 34) (v := ?_) (a' := ?_) #[true, true, true, true, true, true, true, true, true, true, true, true, true, true, false] rfl rfl (any_of HT_.out (by kernel_rfl)) (fun _ _ _ h => h) (Or.inl ⟨by rfl, ?_⟩) ?_ ?_
      rotate_left
      ·intro w'
       go_simp
       with_reducible rfl
      rotate_left
      ·simp only [Act.put, List.setIfInBounds_toArray, List.set_cons_zero, List.set_cons_succ, i64_w, i32_w]
       rfl
      refine pure_ (i := 14) (N := some 5) (v := ?_) (a' := ?_) #[true, true, true, true, true, true, true, true, true, true, true, true, true, true, true] rfl rfl (any_of HT_.out (by kernel_rfl)) (fun _ _ _ h => h) (Or.inl ⟨by rfl, ?_⟩) ?_ ?_
      rotate_left
      ·intro w'
       go_simp
       with_reducible rfl
      rotate_left
      ·simp only [Act.put, List.setIfInBounds_toArray, List.set_cons_zero, List.set_cons_succ, i64_w, i32_w]
       rfl
      refine done_ (done_of HT_.out (by kernel_rfl)) ?_
      try go_wp2
      go_roundg k1
      case measure => have := HK1.out; omega
      case rel => exact ⟨(wrap64 (x5_1 + t695)), (wrap64 (x6_1 + 1)), (by first | rfl | (simp; done) | (simp [*]; done)), (by first | rfl | (simp; done) | (simp [*]; done)), H', ⟨by have := HK1.out; omega⟩, ⟨by (with_reducible repeat (first | refine blk_drewN ?_ _ | refine blk_drew ?_ | refine blk_alloc ?_ _)); exact BK692.out⟩, ⟨bw1_ HB.out GE692.out⟩⟩
     ·rw [if_neg c12] at H
      exact absurd H (by simp)
    ·rw [if_neg c11] at H
     have c11b0 : decide (x6_1 < (l0_3.length : Int)) = false := decide_eq_false c11
     clear c11
     obtain rfl := Option.some.inj H
     have hcz18_0 : wr.cell? ⟨gb692, 0, none⟩ = some (.int .i64 a0_0) := (blk_cell BK692.out 0).trans rfl
     have hcz18_1 : wr.cell? ⟨gb692, 1, none⟩ = some (.int .i64 a0_1) := (blk_cell BK692.out 1).trans rfl
     have hcz18_2 : wr.cell? ⟨gb692, 2, none⟩ = some (.slice A0_2 l0_2.length c0_2) := (blk_cell BK692.out 2).trans rfl
     have hcz18_3 : wr.cell? ⟨gb692, 3, none⟩ = some (.slice A0_3 l0_3.length c0_3) := (blk_cell BK692.out 3).trans rfl
     have hfz18_0 := blk_frozen BK692.out 0
     have hfz18_1 := blk_frozen BK692.out 1
     have hfz18_2 := blk_frozen BK692.out 2
     have hfz18_3 := blk_frozen BK692.out 3
     go_wp2
     go_ret
     exact ⟨by first | rfl | (simp [errW_none, errW_some] <;> rfl) | (simp [*, errW_none, errW_some] <;> rfl), bw1_ HB.out GE692.out⟩

end Go.Proofs.Ytnokgkhkmnldeaa.P
