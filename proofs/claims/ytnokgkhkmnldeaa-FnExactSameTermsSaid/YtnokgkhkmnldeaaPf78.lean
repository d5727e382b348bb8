-- Printed by this session's own program (wip/tools/mkprint.py) out of the translation. Not trusted: Lean checks it.
import Derived.Test.YtnokgkhkmnldeaaP0
import Derived.Test.YtnokgkhkmnldeaaPf104
namespace Go.Proofs.Ytnokgkhkmnldeaa.P
open Go.RowKit Go.Proofs.YtnokgkhkmnldeaaW.PrintWords Go.Proofs.YtnokgkhkmnldeaaW.PrintLast Go.Proofs.YtnokgkhkmnldeaaW.PrintMore
attribute [local go_sem] max2_int min2_int max_two min_two max_three min_three max_four min_four   -- for this text's walks alone
set_option linter.unusedVariables false
set_option linter.unusedSimpArgs false

/-! ### spec_l2Equal: function 78 -/
mutual
def spec_l2Equal.j0 : Nat → Bool → Int → Int → List Int → List (S48) → Int → Int → List Int → List (S48) → Option (Bool)
  | 0, _, _, _, _, _, _, _, _, _ => none
  | k + 1, x34, x782000, x782001, x782002, x782003, x783000, x783001, x783002, x783003 => if x34 = true then (some false) else (spec_l2Equal.l0 k 0 x782000 x782001 x782002 x782003 x783000 x783001 x783002 x783003)
def spec_l2Equal.l0 : Nat → Int → Int → Int → List Int → List (S48) → Int → Int → List Int → List (S48) → Option (Bool)
  | 0, _, _, _, _, _, _, _, _, _ => none
  | k + 1, x5, x782000, x782001, x782002, x782003, x783000, x783001, x783002, x783003 => if x5 < (x782003.length : Int) then (if 0 ≤ x5 then (if x5 < (x783003.length : Int) then ((spec_l2Equal.f k ((rd_T48 x782003 x5).f0) ((rd_T48 x782003 x5).f1) ((rd_T48 x782003 x5).f2) ((rd_T48 x782003 x5).f3) ((rd_T48 x783003 x5).f0) ((rd_T48 x783003 x5).f1) ((rd_T48 x783003 x5).f2) ((rd_T48 x783003 x5).f3)).bind fun t786 => (if t786 = true then (spec_l2Equal.l0 k (wrap64 (x5 + 1)) x782000 x782001 x782002 x782003 x783000 x783001 x783002 x783003) else (some false))) else (none)) else (none)) else (some true)
def spec_l2Equal.f : Nat → Int → Int → List Int → List (S48) → Int → Int → List Int → List (S48) → Option (Bool)
  | 0, _, _, _, _, _, _, _, _ => none
  | k + 1, a0_0, a0_1, l0_2, l0_3, a1_0, a1_1, l1_2, l1_3 => if a0_0 = a1_0 then (if a0_1 = a1_1 then ((spec_l1Same.f k l0_2 l1_2).bind fun t783 => (if t783 = true then (spec_l2Equal.j0 k ((l0_3.length : Int) != (l1_3.length : Int)) a0_0 a0_1 l0_2 l0_3 a1_0 a1_1 l1_2 l1_3) else (spec_l2Equal.j0 k true a0_0 a0_1 l0_2 l0_3 a1_0 a1_1 l1_2 l1_3))) else (spec_l2Equal.j0 k true a0_0 a0_1 l0_2 l0_3 a1_0 a1_1 l1_2 l1_3)) else (spec_l2Equal.j0 k true a0_0 a0_1 l0_2 l0_3 a1_0 a1_1 l1_2 l1_3)
end
def spec_l2Equal.T6 : Bool × List (List Nat × List Nat) := (true, [([], []), ([0], [0]), ([], []), ([1, 2], [1, 2]), ([3], [3]), ([], []), ([5], [5]), ([], []), ([6, 7], [6, 7]), ([8], [8]), ([4, 9], [4, 9]), ([10], [10])])
def spec_l2Equal.B6 : List Nat := [0, 1, 0, 7, 15, 0, 32, 0, 224, 480, 1023, 2047]
theorem spec_l2Equal.tab6 : rtab .any (opsOf Try.f78 6) = spec_l2Equal.T6 := by kernel_rfl
theorem spec_l2Equal.bits6 : waitsOk spec_l2Equal.T6.2 spec_l2Equal.B6 = true := by kernel_rfl
set_option maxHeartbeats 8000000 in
set_option maxRecDepth 100000 in
theorem spec_l2Equal.calls (k : Nat) : ∀ (a0_0 : Int) (a0_1 : Int) (A0_2 : Option Addr) (c0_2 : Nat) (l0_2 : List Int) (A0_3 : Option Addr) (c0_3 : Nat) (l0_3 : List (S48)) (a1_0 : Int) (a1_1 : Int) (A1_2 : Option Addr) (c1_2 : Nat) (l1_2 : List Int) (A1_3 : Option Addr) (c1_3 : Nat) (l1_3 : List (S48)) (r : Bool) (w : World) (hr0_2 : Kd.C (Kd.int .i64) w A0_2 l0_2.length l0_2) (hc0_2 : l0_2.length ≤ c0_2) (hr0_3 : Kd.C k48 w A0_3 l0_3.length l0_3) (hc0_3 : l0_3.length ≤ c0_3) (hr1_2 : Kd.C (Kd.int .i64) w A1_2 l1_2.length l1_2) (hc1_2 : l1_2.length ≤ c1_2) (hr1_3 : Kd.C k48 w A1_3 l1_3.length l1_3) (hc1_3 : l1_3.length ≤ c1_3) (h : spec_l2Equal.f k a0_0 a0_1 l0_2 l0_3 a1_0 a1_1 l1_2 l1_3 = some r),
    Calls Try.prog 78 #[.agg #[.int .i64 a0_0, .int .i64 a0_1, .slice A0_2 l0_2.length c0_2, .slice A0_3 l0_3.length c0_3], .agg #[.int .i64 a1_0, .int .i64 a1_1, .slice A1_2 l1_2.length c1_2, .slice A1_3 l1_3.length c1_3]] w fun e w' => e = .returned (.bool r) ∧ Below w.heap.size w w' := by
  induction k using Nat.strongRecOn with
  | _ k ih =>
  intro a0_0 a0_1 A0_2 c0_2 l0_2 A0_3 c0_3 l0_3 a1_0 a1_1 A1_2 c1_2 l1_2 A1_3 c1_3 l1_3 r w hr0_2 hc0_2 hr0_3 hc0_3 hr1_2 hc1_2 hr1_3 hc1_3 h
  cases k with
  | zero => exact absurd h (by simp [spec_l2Equal.f])
  | succ k =>
  simp only [spec_l2Equal.f] at h
  have hu48 := Try.underlying48
  have HR0_2 := Aside0.mk hr0_2
  have HC0_2 := Aside0.mk hc0_2
  clear hr0_2 hc0_2
  have HR0_3 := Aside0.mk hr0_3
  have HC0_3 := Aside0.mk hc0_3
  clear hr0_3 hc0_3
  have HR1_2 := Aside0.mk hr1_2
  have HC1_2 := Aside0.mk hc1_2
  clear hr1_2 hc1_2
  have HR1_3 := Aside0.mk hr1_3
  have HC1_3 := Aside0.mk hc1_3
  clear hr1_3 hc1_3
  have HB := Aside0.mk (Below.refl w.heap.size w)
  have H : (if a0_0 = a1_0 then (if a0_1 = a1_1 then ((spec_l1Same.f k l0_2 l1_2).bind fun t783 => (if t783 = true then (spec_l2Equal.j0 k ((l0_3.length : Int) != (l1_3.length : Int)) a0_0 a0_1 l0_2 l0_3 a1_0 a1_1 l1_2 l1_3) else (spec_l2Equal.j0 k true a0_0 a0_1 l0_2 l0_3 a1_0 a1_1 l1_2 l1_3))) else (spec_l2Equal.j0 k true a0_0 a0_1 l0_2 l0_3 a1_0 a1_1 l1_2 l1_3)) else (spec_l2Equal.j0 k true a0_0 a0_1 l0_2 l0_3 a1_0 a1_1 l1_2 l1_3)) = some r := h
  clear h
  have HC3 := Aside0.mk H
  clear H
  go_enter Try.func78, Try.ntmps78
  go_upto_region 1 with (first | ((with_reducible refine gate_dst (N := 2) rfl ?_); (try (refine gate_guard (by rfl) ?_; dsimp only)); refine box_event ?hg (N := 2) ?hd (cs := #[.int .i64 a0_0, .int .i64 a0_1, .slice A0_2 l0_2.length c0_2, .slice A0_3 l0_3.length c0_3]) (t := 48) ?hr ?_; (case hd => rfl); (case hg => rfl); (case hr => first | (go_simp; done) | (go_simp; rfl)); intro gb781 hg w4 hbox hb; have n0_ := Aside0.mk (below_step (by repeat (first | (with_reducible first | exact HB.out | apply below_alloc | apply pw_below_drewN | apply below_drew1) | exact HB.out)) hb); have n1_ := Aside0.mk (hbox); have n2_ := Aside0.mk ((by rw [hg]; exact (below_size (by repeat (first | (with_reducible first | exact HB.out | apply below_alloc | apply pw_below_drewN | apply below_drew1) | exact HB.out))) : w.heap.size ≤ gb781)); have n3_ := Aside0.mk ((by rw [hg]; exact (below_size (by repeat (first | (with_reducible first | exact HB.out | apply below_alloc | apply pw_below_drewN | apply below_drew1) | exact HB.out))) : w.heap.size ≤ gb781)); clear HB; have HB := n0_; have BK781 := n1_; have GW781 := n2_; have GE781 := n3_; clear n0_ n1_ n2_ n3_; clear hb hbox hg) | ((with_reducible refine gate_dst (N := 3) rfl ?_); (try (refine gate_guard (by rfl) ?_; dsimp only)); refine box_event ?hg (N := 3) ?hd (cs := #[.int .i64 a1_0, .int .i64 a1_1, .slice A1_2 l1_2.length c1_2, .slice A1_3 l1_3.length c1_3]) (t := 48) ?hr ?_; (case hd => rfl); (case hg => rfl); (case hr => first | (go_simp; done) | (go_simp; rfl)); intro gb782 hg w5 hbox hb; have n0_ := Aside0.mk (blk_below (g := gb781) (o := .cells #[.int .i64 a0_0, .int .i64 a0_1, .slice A0_2 l0_2.length c0_2, .slice A0_3 l0_3.length c0_3] 48 (0, 0)) (by (with_reducible repeat (first | refine blk_drewN ?_ _ | refine blk_drew ?_ | refine blk_alloc ?_ _)); exact BK781.out) hb); have n1_ := Aside0.mk (below_step (by repeat (first | (with_reducible first | exact HB.out | apply below_alloc | apply pw_below_drewN | apply below_drew1 | refine below_set ?_ GE781.out) | exact HB.out)) hb); have n2_ := Aside0.mk (hbox); have n3_ := Aside0.mk ((by rw [hg]; exact (below_size (by repeat (first | (with_reducible first | exact HB.out | apply below_alloc | apply pw_below_drewN | apply below_drew1 | refine below_set ?_ GE781.out) | exact HB.out))) : w.heap.size ≤ gb782)); have n4_ := Aside0.mk ((by rw [hg]; exact (below_size (by repeat (first | (with_reducible first | exact HB.out | apply below_alloc | apply pw_below_drewN | apply below_drew1 | refine below_set ?_ GE781.out) | exact HB.out))) : w.heap.size ≤ gb782)); have n5_ := Aside0.mk ((by rw [hg]; exact Nat.ne_of_lt (blk_lt (g := gb781) (o := .cells #[.int .i64 a0_0, .int .i64 a0_1, .slice A0_2 l0_2.length c0_2, .slice A0_3 l0_3.length c0_3] 48 (0, 0)) (by (with_reducible repeat (first | refine blk_drewN ?_ _ | refine blk_drew ?_ | refine blk_alloc ?_ _)); exact BK781.out)) : gb781 ≠ gb782)); have n6_ := Aside0.mk ((by rw [hg]; exact Nat.ne_of_gt (blk_lt (g := gb781) (o := .cells #[.int .i64 a0_0, .int .i64 a0_1, .slice A0_2 l0_2.length c0_2, .slice A0_3 l0_3.length c0_3] 48 (0, 0)) (by (with_reducible repeat (first | refine blk_drewN ?_ _ | refine blk_drew ?_ | refine blk_alloc ?_ _)); exact BK781.out)) : gb782 ≠ gb781)); clear BK781; clear HB; have BK781 := n0_; have HB := n1_; have BK782 := n2_; have GW782 := n3_; have GE782 := n4_; have NB781_782 := n5_; have NB782_781 := n6_; clear n0_ n1_ n2_ n3_ n4_ n5_ n6_; clear hb hbox hg))
  (try simp only [Act.put, List.setIfInBounds_toArray, List.set_cons_zero, List.set_cons_succ])
  go_cut [34] (fun v34 wc => ∃ (kq : Nat) (x34_2 : Bool), v34 = .bool x34_2 ∧ Aside0 (spec_l2Equal.j0 kq x34_2 a0_0 a0_1 l0_2 l0_3 a1_0 a1_1 l1_2 l1_3 = some r) ∧ Aside0 (kq ≤ k) ∧ Aside0 (wc.heap[gb781]? = some (.cells #[.int .i64 a0_0, .int .i64 a0_1, (.slice A0_2 l0_2.length c0_2), (.slice A0_3 l0_3.length c0_3)] 48 (0, 0))) ∧ Aside0 (wc.heap[gb782]? = some (.cells #[.int .i64 a1_0, .int .i64 a1_1, (.slice A1_2 l1_2.length c1_2), (.slice A1_3 l1_3.length c1_3)] 48 (0, 0))) ∧ Aside0 (Below w.heap.size w wc))
  case first =>
    have H := HC3.out
    clear HC3
    by_cases c6 : a0_0 = a1_0
    · rw [if_pos c6] at H
      have c6b0 : (a0_0 == a1_0) = true := beq_iff_eq.mpr c6
      have c6b1 : (a0_0 != a1_0) = false := bne_eq_false_iff_eq.mpr c6
      clear c6
      (first | rw [c6b0] | (simp only [i64_w, i32_w]; rw [c6b0]) | skip)
      by_cases c7 : a0_1 = a1_1
      · rw [if_pos c7] at H
        have c7b0 : (a0_1 == a1_1) = true := beq_iff_eq.mpr c7
        have c7b1 : (a0_1 != a1_1) = false := bne_eq_false_iff_eq.mpr c7
        clear c7
        replace H := Option.bind_eq_some_iff.mp H
        obtain ⟨t783, A80, H⟩ := H
        replace H : (if t783 = true then (spec_l2Equal.j0 k ((l0_3.length : Int) != (l1_3.length : Int)) a0_0 a0_1 l0_2 l0_3 a1_0 a1_1 l1_2 l1_3) else (spec_l2Equal.j0 k true a0_0 a0_1 l0_2 l0_3 a1_0 a1_1 l1_2 l1_3)) = some r := H
        have A8 := Aside0.mk A80
        clear A80
        by_cases c9 : t783 = true
        · subst c9
          have H1 : (spec_l2Equal.j0 k ((l0_3.length : Int) != (l1_3.length : Int)) a0_0 a0_1 l0_2 l0_3 a1_0 a1_1 l1_2 l1_3) = some r := by rw [if_pos rfl] at H; exact H
          clear H
          have H := H1
          clear H1
          have H' := Aside0.mk H
          clear H
          have hnb10 := NB781_782.out
          have hnc10 := NB782_781.out
          have hcz11_0 : w5.cell? ⟨gb781, 0, none⟩ = some (.int .i64 a0_0) := (blk_cell BK781.out 0).trans rfl
          have hcz11_1 : w5.cell? ⟨gb781, 1, none⟩ = some (.int .i64 a0_1) := (blk_cell BK781.out 1).trans rfl
          have hcz11_2 : w5.cell? ⟨gb781, 2, none⟩ = some (.slice A0_2 l0_2.length c0_2) := (blk_cell BK781.out 2).trans rfl
          have hcz11_3 : w5.cell? ⟨gb781, 3, none⟩ = some (.slice A0_3 l0_3.length c0_3) := (blk_cell BK781.out 3).trans rfl
          have hfz11_0 := blk_frozen BK781.out 0
          have hfz11_1 := blk_frozen BK781.out 1
          have hfz11_2 := blk_frozen BK781.out 2
          have hfz11_3 := blk_frozen BK781.out 3
          have hcz12_0 : w5.cell? ⟨gb782, 0, none⟩ = some (.int .i64 a1_0) := (blk_cell BK782.out 0).trans rfl
          have hcz12_1 : w5.cell? ⟨gb782, 1, none⟩ = some (.int .i64 a1_1) := (blk_cell BK782.out 1).trans rfl
          have hcz12_2 : w5.cell? ⟨gb782, 2, none⟩ = some (.slice A1_2 l1_2.length c1_2) := (blk_cell BK782.out 2).trans rfl
          have hcz12_3 : w5.cell? ⟨gb782, 3, none⟩ = some (.slice A1_3 l1_3.length c1_3) := (blk_cell BK782.out 3).trans rfl
          have hfz12_0 := blk_frozen BK782.out 0
          have hfz12_1 := blk_frozen BK782.out 1
          have hfz12_2 := blk_frozen BK782.out 2
          have hfz12_3 := blk_frozen BK782.out 3
          go_wp2_with (first | (go_at_call 104; (with_reducible refine (spec_l1Same.calls k _ _ l0_2 _ _ l1_2 true _ ?side1 ?side2 ?side3 ?side4 A8.out).mono ?_); (case side1 => repeat (first | exact (Kd.C_below HR0_2.out HB.out) | (with_reducible refine Kd.C_alloc ?_ _) | (with_reducible refine Kd.C_drewN ?_ _) | (with_reducible refine Kd.C_drew ?_))); (case side2 => exact HC0_2.out); (case side3 => repeat (first | exact (Kd.C_below HR1_2.out HB.out) | (with_reducible refine Kd.C_alloc ?_ _) | (with_reducible refine Kd.C_drewN ?_ _) | (with_reducible refine Kd.C_drew ?_))); (case side4 => exact HC1_2.out); rintro e w' ⟨rfl, ⟨nd, rfl⟩⟩))
          go_meet
          case rel => exact ⟨_, (((l0_3.length : Int) != (l1_3.length : Int))), (by first | rfl | (simp; done) | (simp [*]; done)), H', ⟨by first | omega | exact Nat.le_refl _⟩, ⟨by (with_reducible repeat (first | refine blk_drewN ?_ _ | refine blk_drew ?_ | refine blk_alloc ?_ _)); exact BK781.out⟩, ⟨by (with_reducible repeat (first | refine blk_drewN ?_ _ | refine blk_drew ?_ | refine blk_alloc ?_ _)); exact BK782.out⟩, ⟨by repeat (first | (with_reducible first | exact HB.out | apply below_alloc | apply pw_below_drewN | apply below_drew1 | refine below_set ?_ GE781.out | refine below_set ?_ GE782.out) | exact HB.out)⟩⟩
        · replace c9 := Bool.eq_false_iff.mpr c9
          subst c9
          have H1 : (spec_l2Equal.j0 k true a0_0 a0_1 l0_2 l0_3 a1_0 a1_1 l1_2 l1_3) = some r := by rw [if_neg (show ¬ (false = true) by decide)] at H; exact H
          clear H
          have H := H1
          clear H1
          have H' := Aside0.mk H
          clear H
          have hnb13 := NB781_782.out
          have hnc13 := NB782_781.out
          have hcz14_0 : w5.cell? ⟨gb781, 0, none⟩ = some (.int .i64 a0_0) := (blk_cell BK781.out 0).trans rfl
          have hcz14_1 : w5.cell? ⟨gb781, 1, none⟩ = some (.int .i64 a0_1) := (blk_cell BK781.out 1).trans rfl
          have hcz14_2 : w5.cell? ⟨gb781, 2, none⟩ = some (.slice A0_2 l0_2.length c0_2) := (blk_cell BK781.out 2).trans rfl
          have hcz14_3 : w5.cell? ⟨gb781, 3, none⟩ = some (.slice A0_3 l0_3.length c0_3) := (blk_cell BK781.out 3).trans rfl
          have hfz14_0 := blk_frozen BK781.out 0
          have hfz14_1 := blk_frozen BK781.out 1
          have hfz14_2 := blk_frozen BK781.out 2
          have hfz14_3 := blk_frozen BK781.out 3
          have hcz15_0 : w5.cell? ⟨gb782, 0, none⟩ = some (.int .i64 a1_0) := (blk_cell BK782.out 0).trans rfl
          have hcz15_1 : w5.cell? ⟨gb782, 1, none⟩ = some (.int .i64 a1_1) := (blk_cell BK782.out 1).trans rfl
          have hcz15_2 : w5.cell? ⟨gb782, 2, none⟩ = some (.slice A1_2 l1_2.length c1_2) := (blk_cell BK782.out 2).trans rfl
          have hcz15_3 : w5.cell? ⟨gb782, 3, none⟩ = some (.slice A1_3 l1_3.length c1_3) := (blk_cell BK782.out 3).trans rfl
          have hfz15_0 := blk_frozen BK782.out 0
          have hfz15_1 := blk_frozen BK782.out 1
          have hfz15_2 := blk_frozen BK782.out 2
          have hfz15_3 := blk_frozen BK782.out 3
          go_wp2_with (first | (go_at_call 104; (with_reducible refine (spec_l1Same.calls k _ _ l0_2 _ _ l1_2 false _ ?side1 ?side2 ?side3 ?side4 A8.out).mono ?_); (case side1 => repeat (first | exact (Kd.C_below HR0_2.out HB.out) | (with_reducible refine Kd.C_alloc ?_ _) | (with_reducible refine Kd.C_drewN ?_ _) | (with_reducible refine Kd.C_drew ?_))); (case side2 => exact HC0_2.out); (case side3 => repeat (first | exact (Kd.C_below HR1_2.out HB.out) | (with_reducible refine Kd.C_alloc ?_ _) | (with_reducible refine Kd.C_drewN ?_ _) | (with_reducible refine Kd.C_drew ?_))); (case side4 => exact HC1_2.out); rintro e w' ⟨rfl, ⟨nd, rfl⟩⟩))
          go_meet
          case rel => exact ⟨_, (true), (by first | rfl | (simp; done) | (simp [*]; done)), H', ⟨by first | omega | exact Nat.le_refl _⟩, ⟨by (with_reducible repeat (first | refine blk_drewN ?_ _ | refine blk_drew ?_ | refine blk_alloc ?_ _)); exact BK781.out⟩, ⟨by (with_reducible repeat (first | refine blk_drewN ?_ _ | refine blk_drew ?_ | refine blk_alloc ?_ _)); exact BK782.out⟩, ⟨by repeat (first | (with_reducible first | exact HB.out | apply below_alloc | apply pw_below_drewN | apply below_drew1 | refine below_set ?_ GE781.out | refine below_set ?_ GE782.out) | exact HB.out)⟩⟩
      · rw [if_neg c7] at H
        have c7b0 : (a0_1 == a1_1) = false := beq_eq_false_iff_ne.mpr c7
        have c7b1 : (a0_1 != a1_1) = true := bne_iff_ne.mpr c7
        have H' := Aside0.mk H
        clear H
        have hnb16 := NB781_782.out
        have hnc16 := NB782_781.out
        have hcz17_0 : w5.cell? ⟨gb781, 0, none⟩ = some (.int .i64 a0_0) := (blk_cell BK781.out 0).trans rfl
        have hcz17_1 : w5.cell? ⟨gb781, 1, none⟩ = some (.int .i64 a0_1) := (blk_cell BK781.out 1).trans rfl
        have hcz17_2 : w5.cell? ⟨gb781, 2, none⟩ = some (.slice A0_2 l0_2.length c0_2) := (blk_cell BK781.out 2).trans rfl
        have hcz17_3 : w5.cell? ⟨gb781, 3, none⟩ = some (.slice A0_3 l0_3.length c0_3) := (blk_cell BK781.out 3).trans rfl
        have hfz17_0 := blk_frozen BK781.out 0
        have hfz17_1 := blk_frozen BK781.out 1
        have hfz17_2 := blk_frozen BK781.out 2
        have hfz17_3 := blk_frozen BK781.out 3
        have hcz18_0 : w5.cell? ⟨gb782, 0, none⟩ = some (.int .i64 a1_0) := (blk_cell BK782.out 0).trans rfl
        have hcz18_1 : w5.cell? ⟨gb782, 1, none⟩ = some (.int .i64 a1_1) := (blk_cell BK782.out 1).trans rfl
        have hcz18_2 : w5.cell? ⟨gb782, 2, none⟩ = some (.slice A1_2 l1_2.length c1_2) := (blk_cell BK782.out 2).trans rfl
        have hcz18_3 : w5.cell? ⟨gb782, 3, none⟩ = some (.slice A1_3 l1_3.length c1_3) := (blk_cell BK782.out 3).trans rfl
        have hfz18_0 := blk_frozen BK782.out 0
        have hfz18_1 := blk_frozen BK782.out 1
        have hfz18_2 := blk_frozen BK782.out 2
        have hfz18_3 := blk_frozen BK782.out 3
        go_wp2
        go_meet
        case rel => exact ⟨_, (true), (by first | rfl | (simp; done) | (simp [*]; done)), H', ⟨by first | omega | exact Nat.le_refl _⟩, ⟨by (with_reducible repeat (first | refine blk_drewN ?_ _ | refine blk_drew ?_ | refine blk_alloc ?_ _)); exact BK781.out⟩, ⟨by (with_reducible repeat (first | refine blk_drewN ?_ _ | refine blk_drew ?_ | refine blk_alloc ?_ _)); exact BK782.out⟩, ⟨by repeat (first | (with_reducible first | exact HB.out | apply below_alloc | apply pw_below_drewN | apply below_drew1 | refine below_set ?_ GE781.out | refine below_set ?_ GE782.out) | exact HB.out)⟩⟩
    · rw [if_neg c6] at H
      have c6b0 : (a0_0 == a1_0) = false := beq_eq_false_iff_ne.mpr c6
      have c6b1 : (a0_0 != a1_0) = true := bne_iff_ne.mpr c6
      (first | rw [c6b0] | (simp only [i64_w, i32_w]; rw [c6b0]) | skip)
      have H' := Aside0.mk H
      clear H
      have hnb19 := NB781_782.out
      have hnc19 := NB782_781.out
      have hcz20_0 : w5.cell? ⟨gb781, 0, none⟩ = some (.int .i64 a0_0) := (blk_cell BK781.out 0).trans rfl
      have hcz20_1 : w5.cell? ⟨gb781, 1, none⟩ = some (.int .i64 a0_1) := (blk_cell BK781.out 1).trans rfl
      have hcz20_2 : w5.cell? ⟨gb781, 2, none⟩ = some (.slice A0_2 l0_2.length c0_2) := (blk_cell BK781.out 2).trans rfl
      have hcz20_3 : w5.cell? ⟨gb781, 3, none⟩ = some (.slice A0_3 l0_3.length c0_3) := (blk_cell BK781.out 3).trans rfl
      have hfz20_0 := blk_frozen BK781.out 0
      have hfz20_1 := blk_frozen BK781.out 1
      have hfz20_2 := blk_frozen BK781.out 2
      have hfz20_3 := blk_frozen BK781.out 3
      have hcz21_0 : w5.cell? ⟨gb782, 0, none⟩ = some (.int .i64 a1_0) := (blk_cell BK782.out 0).trans rfl
      have hcz21_1 : w5.cell? ⟨gb782, 1, none⟩ = some (.int .i64 a1_1) := (blk_cell BK782.out 1).trans rfl
      have hcz21_2 : w5.cell? ⟨gb782, 2, none⟩ = some (.slice A1_2 l1_2.length c1_2) := (blk_cell BK782.out 2).trans rfl
      have hcz21_3 : w5.cell? ⟨gb782, 3, none⟩ = some (.slice A1_3 l1_3.length c1_3) := (blk_cell BK782.out 3).trans rfl
      have hfz21_0 := blk_frozen BK782.out 0
      have hfz21_1 := blk_frozen BK782.out 1
      have hfz21_2 := blk_frozen BK782.out 2
      have hfz21_3 := blk_frozen BK782.out 3
      go_wp2
      go_meet
      case rel => exact ⟨_, (true), (by first | rfl | (simp; done) | (simp [*]; done)), H', ⟨by first | omega | exact Nat.le_refl _⟩, ⟨by (with_reducible repeat (first | refine blk_drewN ?_ _ | refine blk_drew ?_ | refine blk_alloc ?_ _)); exact BK781.out⟩, ⟨by (with_reducible repeat (first | refine blk_drewN ?_ _ | refine blk_drew ?_ | refine blk_alloc ?_ _)); exact BK782.out⟩, ⟨by repeat (first | (with_reducible first | exact HB.out | apply below_alloc | apply pw_below_drewN | apply below_drew1 | refine below_set ?_ GE781.out | refine below_set ?_ GE782.out) | exact HB.out)⟩⟩
  case rest =>
    clear HC3
    try clear c1
    try clear c7
    obtain ⟨kq, x34_2, rfl, HA, HJ2, BK781, BK782, HB⟩ := hcut
    cases kq with
    | zero => exact absurd HA.out (by simp [spec_l2Equal.j0])
    | succ kj2 =>
      have H := HA.out
      clear HA
      simp only [spec_l2Equal.j0] at H
      by_cases c22 : x34_2 = true
      · subst c22
        have H1 : (some false) = some r := by rw [if_pos rfl] at H; exact H
        clear H
        have H := H1
        clear H1
        obtain rfl := Option.some.inj H
        go_wp2
        go_ret
        exact ⟨by first | rfl | (simp [errW_none, errW_some] <;> rfl) | (simp [*, errW_none, errW_some] <;> rfl), by repeat (first | (with_reducible first | exact HB.out | apply below_alloc | apply pw_below_drewN | apply below_drew1 | refine below_set ?_ GE781.out | refine below_set ?_ GE782.out) | exact HB.out)⟩
      · replace c22 := Bool.eq_false_iff.mpr c22
        subst c22
        have H1 : (spec_l2Equal.l0 kj2 0 a0_0 a0_1 l0_2 l0_3 a1_0 a1_1 l1_2 l1_3) = some r := by rw [if_neg (show ¬ (false = true) by decide)] at H; exact H
        clear H
        have H := H1
        clear H1
        have H' := Aside0.mk H
        clear H
        go_wp2
        go_loopg [5] kj2 (fun kq v5 w' => ∃ (x5_2 : Int), v5 = .int .i64 x5_2 ∧ Aside0 (spec_l2Equal.l0 kq x5_2 a0_0 a0_1 l0_2 l0_3 a1_0 a1_1 l1_2 l1_3 = some r) ∧ Aside0 (kq ≤ kj2) ∧ Aside0 (w'.heap[gb781]? = some (.cells #[.int .i64 a0_0, .int .i64 a0_1, (.slice A0_2 l0_2.length c0_2), (.slice A0_3 l0_3.length c0_3)] 48 (0, 0))) ∧ Aside0 (w'.heap[gb782]? = some (.cells #[.int .i64 a1_0, .int .i64 a1_1, (.slice A1_2 l1_2.length c1_2), (.slice A1_3 l1_3.length c1_3)] 48 (0, 0))) ∧ Aside0 (Below w.heap.size w w'))
        case atStart => exact ⟨(0), (by first | rfl | (simp; done) | (simp [*]; done)), H', ⟨Nat.le_refl _⟩, ⟨by (with_reducible repeat (first | refine blk_drewN ?_ _ | refine blk_drew ?_ | refine blk_alloc ?_ _)); exact BK781.out⟩, ⟨by (with_reducible repeat (first | refine blk_drewN ?_ _ | refine blk_drew ?_ | refine blk_alloc ?_ _)); exact BK782.out⟩, ⟨by repeat (first | (with_reducible first | exact HB.out | apply below_alloc | apply pw_below_drewN | apply below_drew1 | refine below_set ?_ GE781.out | refine below_set ?_ GE782.out) | exact HB.out)⟩⟩
        case round =>
          clear H'
          try clear c1
          try clear c2
          try clear p2
          try clear c7
          try clear c22
          obtain ⟨x5_2, rfl, HA, HK2, BK781, BK782, HB⟩ := hrel
          cases gk with
          | zero => exact absurd HA.out (by simp [spec_l2Equal.l0])
          | succ k2 =>
            have H := HA.out
            clear HA
            simp only [spec_l2Equal.l0] at H
            by_cases c23 : x5_2 < (l0_3.length : Int)
            · rw [if_pos c23] at H
              have c23b0 : decide (x5_2 < (l0_3.length : Int)) = true := decide_eq_true c23
              clear c23
              by_cases c24 : 0 ≤ x5_2
              · rw [if_pos c24] at H
                have c24b0 : decide (0 ≤ x5_2) = true := decide_eq_true c24
                clear c24
                by_cases c25 : x5_2 < (l1_3.length : Int)
                · rw [if_pos c25] at H
                  have c25b0 : decide (x5_2 < (l1_3.length : Int)) = true := decide_eq_true c25
                  clear c25
                  replace H := Option.bind_eq_some_iff.mp H
                  obtain ⟨t786, A260, H⟩ := H
                  replace H : (if t786 = true then (spec_l2Equal.l0 k2 (wrap64 (x5_2 + 1)) a0_0 a0_1 l0_2 l0_3 a1_0 a1_1 l1_2 l1_3) else (some false)) = some r := H
                  have A26 := Aside0.mk A260
                  clear A260
                  by_cases c27 : t786 = true
                  · subst c27
                    have H1 : (spec_l2Equal.l0 k2 (wrap64 (x5_2 + 1)) a0_0 a0_1 l0_2 l0_3 a1_0 a1_1 l1_2 l1_3) = some r := by rw [if_pos rfl] at H; exact H
                    clear H
                    have H := H1
                    clear H1
                    have H' := Aside0.mk H
                    clear H
                    have hnb28 := NB781_782.out
                    have hnc28 := NB782_781.out
                    have hcz29_0 : wr.cell? ⟨gb781, 0, none⟩ = some (.int .i64 a0_0) := (blk_cell BK781.out 0).trans rfl
                    have hcz29_1 : wr.cell? ⟨gb781, 1, none⟩ = some (.int .i64 a0_1) := (blk_cell BK781.out 1).trans rfl
                    have hcz29_2 : wr.cell? ⟨gb781, 2, none⟩ = some (.slice A0_2 l0_2.length c0_2) := (blk_cell BK781.out 2).trans rfl
                    have hcz29_3 : wr.cell? ⟨gb781, 3, none⟩ = some (.slice A0_3 l0_3.length c0_3) := (blk_cell BK781.out 3).trans rfl
                    have hfz29_0 := blk_frozen BK781.out 0
                    have hfz29_1 := blk_frozen BK781.out 1
                    have hfz29_2 := blk_frozen BK781.out 2
                    have hfz29_3 := blk_frozen BK781.out 3
                    try go_wp2
                    have n0_ := Aside0.mk (blk_drew BK781.out)
                    have n1_ := Aside0.mk (blk_drew BK782.out)
                    have n2_ := Aside0.mk (below_drew1 HB.out)
                    clear BK781
                    clear BK782
                    clear HB
                    have BK781 := n0_
                    have BK782 := n1_
                    have HB := n2_
                    clear n0_ n1_ n2_
                    have p784 : 0 ≤ (x5_2 : Int) := of_decide_eq_true (by first | (with_reducible assumption) | assumption)
                    have q784 : x5_2 < (l0_3.length : Int) := of_decide_eq_true (by first | (with_reducible assumption) | assumption)
                    obtain ⟨ad784, A784_2, c784_2, A784_3, c784_3, e784, hx784_0, hx784_1, hx784_2, hx784_3, hl784_2, hi784_2, hl784_3, hi784_3⟩ := at_T48 HR0_3.out x5_2 p784 q784
                    have hw784_3 := hx784_3
                    have hw784_2 := hx784_2
                    have hw784_1 := hx784_1
                    have hw784_0 := hx784_0
                    cases e784
                    replace hx784_0 := (HB.out.cell (World.block_lt_of_cell? w _ hx784_0)).trans hx784_0
                    replace hx784_1 := (HB.out.cell (World.block_lt_of_cell? w _ hx784_1)).trans hx784_1
                    replace hx784_2 := (HB.out.cell (World.block_lt_of_cell? w _ hx784_2)).trans hx784_2
                    replace hx784_3 := (HB.out.cell (World.block_lt_of_cell? w _ hx784_3)).trans hx784_3
                    have HR784_2 := Aside0.mk hi784_2
                    have HC784_2 := Aside0.mk hl784_2
                    clear hi784_2 hl784_2
                    have HR784_3 := Aside0.mk hi784_3
                    have HC784_3 := Aside0.mk hl784_3
                    clear hi784_3 hl784_3
                    replace p784 := eq_true p784
                    replace q784 := eq_true q784
                    have p785 : 0 ≤ (x5_2 : Int) := of_decide_eq_true (by first | (with_reducible assumption) | assumption)
                    have q785 : x5_2 < (l1_3.length : Int) := of_decide_eq_true (by first | (with_reducible assumption) | assumption)
                    obtain ⟨ad785, A785_2, c785_2, A785_3, c785_3, e785, hx785_0, hx785_1, hx785_2, hx785_3, hl785_2, hi785_2, hl785_3, hi785_3⟩ := at_T48 HR1_3.out x5_2 p785 q785
                    have hw785_3 := hx785_3
                    have hw785_2 := hx785_2
                    have hw785_1 := hx785_1
                    have hw785_0 := hx785_0
                    cases e785
                    replace hx785_0 := (HB.out.cell (World.block_lt_of_cell? w _ hx785_0)).trans hx785_0
                    replace hx785_1 := (HB.out.cell (World.block_lt_of_cell? w _ hx785_1)).trans hx785_1
                    replace hx785_2 := (HB.out.cell (World.block_lt_of_cell? w _ hx785_2)).trans hx785_2
                    replace hx785_3 := (HB.out.cell (World.block_lt_of_cell? w _ hx785_3)).trans hx785_3
                    have HR785_2 := Aside0.mk hi785_2
                    have HC785_2 := Aside0.mk hl785_2
                    clear hi785_2 hl785_2
                    have HR785_3 := Aside0.mk hi785_3
                    have HC785_3 := Aside0.mk hl785_3
                    clear hi785_3 hl785_3
                    replace p785 := eq_true p785
                    replace q785 := eq_true q785
                    refine start_ (n := 12) (S := fun w' => w'.cell? ⟨gb781, 0, none⟩ = some (.int .i64 a0_0) ∧ w'.cell? ⟨gb781, 1, none⟩ = some (.int .i64 a0_1) ∧ w'.cell? ⟨gb781, 2, none⟩ = some (.slice A0_2 l0_2.length c0_2) ∧ w'.cell? ⟨gb781, 3, none⟩ = some (.slice (some ad784) l0_3.length c0_3) ∧ w'.cell? ⟨gb782, 0, none⟩ = some (.int .i64 a1_0) ∧ w'.cell? ⟨gb782, 1, none⟩ = some (.int .i64 a1_1) ∧ w'.cell? ⟨gb782, 2, none⟩ = some (.slice A1_2 l1_2.length c1_2) ∧ w'.cell? ⟨gb782, 3, none⟩ = some (.slice (some ad785) l1_3.length c1_3) ∧ w'.cell? (ad784.add ((x5_2).toNat * 4)) = some (.int .i64 ((rd_T48 l0_3 x5_2).f0)) ∧ w'.cell? ⟨(ad784.add ((x5_2).toNat * 4)).block, (ad784.add ((x5_2).toNat * 4)).off + 1, none⟩ = some (.int .i64 ((rd_T48 l0_3 x5_2).f1)) ∧ w'.cell? ⟨(ad784.add ((x5_2).toNat * 4)).block, (ad784.add ((x5_2).toNat * 4)).off + 2, none⟩ = some (.slice A784_2 ((rd_T48 l0_3 x5_2).f2).length c784_2) ∧ w'.cell? ⟨(ad784.add ((x5_2).toNat * 4)).block, (ad784.add ((x5_2).toNat * 4)).off + 3, none⟩ = some (.slice A784_3 ((rd_T48 l0_3 x5_2).f3).length c784_3) ∧ w'.cell? (ad785.add ((x5_2).toNat * 4)) = some (.int .i64 ((rd_T48 l1_3 x5_2).f0)) ∧ w'.cell? ⟨(ad785.add ((x5_2).toNat * 4)).block, (ad785.add ((x5_2).toNat * 4)).off + 1, none⟩ = some (.int .i64 ((rd_T48 l1_3 x5_2).f1)) ∧ w'.cell? ⟨(ad785.add ((x5_2).toNat * 4)).block, (ad785.add ((x5_2).toNat * 4)).off + 2, none⟩ = some (.slice A785_2 ((rd_T48 l1_3 x5_2).f2).length c785_2) ∧ w'.cell? ⟨(ad785.add ((x5_2).toNat * 4)).block, (ad785.add ((x5_2).toNat * 4)).off + 3, none⟩ = some (.slice A785_3 ((rd_T48 l1_3 x5_2).f3).length c785_3)) (ds := []) #[false, false, false, false, false, false, false, false, false, false, false, false] (by kernel_rfl) rfl rfl ⟨(blk_cell BK781.out 0).trans rfl, (blk_cell BK781.out 1).trans rfl, (blk_cell BK781.out 2).trans rfl, (blk_cell BK781.out 3).trans rfl, (blk_cell BK782.out 0).trans rfl, (blk_cell BK782.out 1).trans rfl, (blk_cell BK782.out 2).trans rfl, (blk_cell BK782.out 3).trans rfl, ((HB.out.cell (World.block_lt_of_cell? w _ hw784_0)).trans hw784_0), ((HB.out.cell (World.block_lt_of_cell? w _ hw784_1)).trans hw784_1), ((HB.out.cell (World.block_lt_of_cell? w _ hw784_2)).trans hw784_2), ((HB.out.cell (World.block_lt_of_cell? w _ hw784_3)).trans hw784_3), ((HB.out.cell (World.block_lt_of_cell? w _ hw785_0)).trans hw785_0), ((HB.out.cell (World.block_lt_of_cell? w _ hw785_1)).trans hw785_1), ((HB.out.cell (World.block_lt_of_cell? w _ hw785_2)).trans hw785_2), ((HB.out.cell (World.block_lt_of_cell? w _ hw785_3)).trans hw785_3)⟩ (fun hHeld => ?_); refine with_tabW spec_l2Equal.tab6 spec_l2Equal.bits6 (fun HT_ HW_ => ?_)
                    generalize wr.drew = w30 at BK781 BK782 HB HR784_2 HR784_3 HR785_2 HR785_3 hx784_0 hx784_1 hx784_2 hx784_3 hx785_0 hx785_1 hx785_2 hx785_3 hHeld ⊢
                    refine pure_ (i := 0) (N := some 42) (v := ?_) (a' := ?_) #[true, false, false, false, false, false, false, false, false, false, false, false] rfl rfl (any_of HT_.out (by kernel_rfl)) (fun _ _ _ h => h) (Or.inl ⟨by rfl, ?_⟩) ?_ ?_
                    rotate_left
                    · intro w'
                      go_simp
                      with_reducible rfl
                    rotate_left
                    · simp only [Act.put, List.setIfInBounds_toArray, List.set_cons_zero, List.set_cons_succ, i64_w, i32_w]
                      rfl
                    refine pure_ (i := 2) (N := some 44) (v := ?_) (a' := ?_) #[true, false, true, false, false, false, false, false, false, false, false, false] rfl rfl (any_of HT_.out (by kernel_rfl)) (fun _ _ _ h => h) (Or.inl ⟨by rfl, ?_⟩) ?_ ?_
                    rotate_left
                    · intro w'
                      go_simp
                      with_reducible rfl
                    rotate_left
                    · simp only [Act.put, List.setIfInBounds_toArray, List.set_cons_zero, List.set_cons_succ, i64_w, i32_w]
                      rfl
                    refine pure_ (i := 5) (N := some 47) (v := ?_) (a' := ?_) #[true, false, true, false, false, true, false, false, false, false, false, false] rfl rfl (any_of HT_.out (by kernel_rfl)) (fun _ _ _ h => h) (Or.inl ⟨by rfl, ?_⟩) ?_ ?_
                    rotate_left
                    · intro w'
                      go_simp
                      with_reducible rfl
                    rotate_left
                    · simp only [Act.put, List.setIfInBounds_toArray, List.set_cons_zero, List.set_cons_succ, i64_w, i32_w]
                      rfl
                    refine pure_ (i := 7) (N := some 49) (v := ?_) (a' := ?_) #[true, false, true, false, false, true, false, true, false, false, false, false] rfl rfl (any_of HT_.out (by kernel_rfl)) (fun _ _ _ h => h) (Or.inl ⟨by rfl, ?_⟩) ?_ ?_
                    rotate_left
                    · intro w'
                      go_simp
                      with_reducible rfl
                    rotate_left
                    · simp only [Act.put, List.setIfInBounds_toArray, List.set_cons_zero, List.set_cons_succ, i64_w, i32_w]
                      rfl
                    refine take_ (i := 1) (N := some 43) (v := ?_) (a' := ?_) #[true, true, true, false, false, true, false, true, false, false, false, false] rfl rfl (take_ofW HT_.out HW_.out (by kernel_rfl)) (fun _ _ _ h => h) (Or.inl ⟨by rfl, ?_⟩) hHeld ?_ ?_
                    rotate_left
                    · rintro w' ⟨s0, s1, s2, s3, s4, s5, s6, s7, s8, s9, s10, s11, s12, s13, s14, s15⟩
                      go_simp
                      with_reducible rfl
                    rotate_left
                    · simp only [Act.put, List.setIfInBounds_toArray, List.set_cons_zero, List.set_cons_succ, i64_w, i32_w]
                      rfl
                    refine pure_ (i := 3) (N := some 45) (v := ?_) (a' := ?_) #[true, true, true, true, false, true, false, true, false, false, false, false] rfl rfl (any_of HT_.out (by kernel_rfl)) (fun _ _ _ h => h) (Or.inl ⟨by rfl, ?_⟩) ?_ ?_
                    rotate_left
                    · intro w'
                      go_simp
                      with_reducible rfl
                    rotate_left
                    · simp only [Act.put, List.setIfInBounds_toArray, List.set_cons_zero, List.set_cons_succ, i64_w, i32_w]
                      rfl
                    refine take_ (i := 4) (N := some 46) (v := ?_) (a' := ?_) #[true, true, true, true, true, true, false, true, false, false, false, false] rfl rfl (take_ofW HT_.out HW_.out (by kernel_rfl)) (fun _ _ _ h => h) (Or.inl ⟨by rfl, ?_⟩) hHeld ?_ ?_
                    rotate_left
                    · rintro w' ⟨s0, s1, s2, s3, s4, s5, s6, s7, s8, s9, s10, s11, s12, s13, s14, s15⟩
                      go_simp
                      with_reducible rfl
                    rotate_left
                    · simp only [Act.put, List.setIfInBounds_toArray, List.set_cons_zero, List.set_cons_succ, i64_w, i32_w]
                      rfl
                    refine take_ (i := 6) (N := some 48) (v := ?_) (a' := ?_) #[true, true, true, true, true, true, true, true, false, false, false, false] rfl rfl (take_ofW HT_.out HW_.out (by kernel_rfl)) (fun _ _ _ h => h) (Or.inl ⟨by rfl, ?_⟩) hHeld ?_ ?_
                    rotate_left
                    · rintro w' ⟨s0, s1, s2, s3, s4, s5, s6, s7, s8, s9, s10, s11, s12, s13, s14, s15⟩
                      go_simp
                      with_reducible rfl
                    rotate_left
                    · simp only [Act.put, List.setIfInBounds_toArray, List.set_cons_zero, List.set_cons_succ, i64_w, i32_w]
                      rfl
                    refine pure_ (i := 8) (N := some 50) (v := ?_) (a' := ?_) #[true, true, true, true, true, true, true, true, true, false, false, false] rfl rfl (any_of HT_.out (by kernel_rfl)) (fun _ _ _ h => h) (Or.inl ⟨by rfl, ?_⟩) ?_ ?_
                    rotate_left
                    · intro w'
                      go_simp
                      with_reducible rfl
                    rotate_left
                    · simp only [Act.put, List.setIfInBounds_toArray, List.set_cons_zero, List.set_cons_succ, i64_w, i32_w]
                      rfl
                    refine take_ (i := 9) (N := some 51) (v := ?_) (a' := ?_) #[true, true, true, true, true, true, true, true, true, true, false, false] rfl rfl (take_ofW HT_.out HW_.out (by kernel_rfl)) (fun _ _ _ h => h) (Or.inl ⟨by rfl, ?_⟩) hHeld ?_ ?_
                    rotate_left
                    · rintro w' ⟨s0, s1, s2, s3, s4, s5, s6, s7, s8, s9, s10, s11, s12, s13, s14, s15⟩
                      go_simp
                      with_reducible rfl
                    rotate_left
                    · simp only [Act.put, List.setIfInBounds_toArray, List.set_cons_zero, List.set_cons_succ, i64_w, i32_w]
                      rfl
                    refine one_ (i := 10) (N := some 52) #[true, true, true, true, true, true, true, true, true, true, true, false] rfl rfl (one_of HT_.out (by kernel_rfl)) (by decide) (fun K hK => ?_)
                    refine goes_ Try.func78 (by kernel_rfl) rfl #[.agg #[.int .i64 ((rd_T48 l0_3 x5_2).f0), .int .i64 ((rd_T48 l0_3 x5_2).f1), .slice A784_2 ((rd_T48 l0_3 x5_2).f2).length c784_2, .slice A784_3 ((rd_T48 l0_3 x5_2).f3).length c784_3], .agg #[.int .i64 ((rd_T48 l1_3 x5_2).f0), .int .i64 ((rd_T48 l1_3 x5_2).f1), .slice A785_2 ((rd_T48 l1_3 x5_2).f2).length c785_2, .slice A785_3 ((rd_T48 l1_3 x5_2).f3).length c785_3]] (by rfl) rfl rfl (by (try simp only [List.map_toArray, List.map_cons, List.map_nil]); first | done | rfl | (simp only [List.length_drop, List.length_take]; rfl)) ?_
                    with_reducible refine (ih k2 (by have := HJ2.out; have := HK2.out; omega) ((rd_T48 l0_3 x5_2).f0) ((rd_T48 l0_3 x5_2).f1) _ _ ((rd_T48 l0_3 x5_2).f2) _ _ ((rd_T48 l0_3 x5_2).f3) ((rd_T48 l1_3 x5_2).f0) ((rd_T48 l1_3 x5_2).f1) _ _ ((rd_T48 l1_3 x5_2).f2) _ _ ((rd_T48 l1_3 x5_2).f3) true _ ?side1 ?side2 ?side3 ?side4 ?side5 ?side6 ?side7 ?side8 A26.out).mono ?_
                    (case side1 => repeat (first | exact (Kd.C_below HR784_2.out HB.out) | (with_reducible refine Kd.C_alloc ?_ _) | (with_reducible refine Kd.C_drewN ?_ _) | (with_reducible refine Kd.C_drew ?_)))
                    (case side2 => exact HC784_2.out)
                    (case side3 => repeat (first | exact (Kd.C_below HR784_3.out HB.out) | (with_reducible refine Kd.C_alloc ?_ _) | (with_reducible refine Kd.C_drewN ?_ _) | (with_reducible refine Kd.C_drew ?_)))
                    (case side4 => exact HC784_3.out)
                    (case side5 => repeat (first | exact (Kd.C_below HR785_2.out HB.out) | (with_reducible refine Kd.C_alloc ?_ _) | (with_reducible refine Kd.C_drewN ?_ _) | (with_reducible refine Kd.C_drew ?_)))
                    (case side6 => exact HC785_2.out)
                    (case side7 => repeat (first | exact (Kd.C_below HR785_3.out HB.out) | (with_reducible refine Kd.C_alloc ?_ _) | (with_reducible refine Kd.C_drewN ?_ _) | (with_reducible refine Kd.C_drew ?_)))
                    (case side8 => exact HC785_3.out)
                    rintro e w31 ⟨rfl, hb⟩
                    refine ⟨_, rfl, ?_⟩
                    have n0_ := Aside0.mk (blk_below (g := gb781) (o := .cells #[.int .i64 a0_0, .int .i64 a0_1, .slice A0_2 l0_2.length c0_2, .slice (some ad784) l0_3.length c0_3] 48 (0, 0)) (by (with_reducible repeat (first | refine blk_drewN ?_ _ | refine blk_drew ?_ | refine blk_alloc ?_ _)); exact BK781.out) hb)
                    have n1_ := Aside0.mk (blk_below (g := gb782) (o := .cells #[.int .i64 a1_0, .int .i64 a1_1, .slice A1_2 l1_2.length c1_2, .slice (some ad785) l1_3.length c1_3] 48 (0, 0)) (by (with_reducible repeat (first | refine blk_drewN ?_ _ | refine blk_drew ?_ | refine blk_alloc ?_ _)); exact BK782.out) hb)
                    have n2_ := Aside0.mk (below_step (by repeat (first | (with_reducible first | exact HB.out | apply below_alloc | apply pw_below_drewN | apply below_drew1 | refine below_set ?_ GE781.out | refine below_set ?_ GE782.out) | exact HB.out)) hb)
                    clear BK781
                    clear BK782
                    clear HB
                    have BK781 := n0_
                    have BK782 := n1_
                    have HB := n2_
                    clear n0_ n1_ n2_
                    (try clear hb)
                    (try clear hb2)
                    (try clear hk)
                    (try clear hi)
                    refine hK.out _ _ ⟨(blk_cell BK781.out 0).trans rfl, (blk_cell BK781.out 1).trans rfl, (blk_cell BK781.out 2).trans rfl, (blk_cell BK781.out 3).trans rfl, (blk_cell BK782.out 0).trans rfl, (blk_cell BK782.out 1).trans rfl, (blk_cell BK782.out 2).trans rfl, (blk_cell BK782.out 3).trans rfl, ((HB.out.cell (World.block_lt_of_cell? w _ hw784_0)).trans hw784_0), ((HB.out.cell (World.block_lt_of_cell? w _ hw784_1)).trans hw784_1), ((HB.out.cell (World.block_lt_of_cell? w _ hw784_2)).trans hw784_2), ((HB.out.cell (World.block_lt_of_cell? w _ hw784_3)).trans hw784_3), ((HB.out.cell (World.block_lt_of_cell? w _ hw785_0)).trans hw785_0), ((HB.out.cell (World.block_lt_of_cell? w _ hw785_1)).trans hw785_1), ((HB.out.cell (World.block_lt_of_cell? w _ hw785_2)).trans hw785_2), ((HB.out.cell (World.block_lt_of_cell? w _ hw785_3)).trans hw785_3)⟩ (fun hHeld => ?_)
                    clear hK K
                    refine norm_ (a' := ?_) ?_ ?_
                    rotate_left
                    · show Act.put _ (some 52) _ = _
                      simp only [Act.put, List.setIfInBounds_toArray, List.set_cons_zero, List.set_cons_succ, i64_w, i32_w]
                      rfl
                    refine pure_ (i := 11) (N := some 53) (v := ?_) (a' := ?_) #[true, true, true, true, true, true, true, true, true, true, true, true] rfl rfl (any_of HT_.out (by kernel_rfl)) (fun _ _ _ h => h) (Or.inl ⟨by rfl, ?_⟩) ?_ ?_
                    rotate_left
                    · intro w'
                      go_simp
                      with_reducible rfl
                    rotate_left
                    · simp only [Act.put, List.setIfInBounds_toArray, List.set_cons_zero, List.set_cons_succ, i64_w, i32_w]
                      rfl
                    refine done_ (done_of HT_.out (by kernel_rfl)) ?_
                    try go_wp2
                    go_roundg k2
                    case measure => have := HJ2.out; have := HK2.out; omega
                    case rel => exact ⟨(wrap64 (x5_2 + 1)), (by first | rfl | (simp; done) | (simp [*]; done)), H', ⟨by have := HJ2.out; have := HK2.out; omega⟩, ⟨by (with_reducible repeat (first | refine blk_drewN ?_ _ | refine blk_drew ?_ | refine blk_alloc ?_ _)); exact BK781.out⟩, ⟨by (with_reducible repeat (first | refine blk_drewN ?_ _ | refine blk_drew ?_ | refine blk_alloc ?_ _)); exact BK782.out⟩, ⟨by repeat (first | (with_reducible first | exact HB.out | apply below_alloc | apply pw_below_drewN | apply below_drew1 | refine below_set ?_ GE781.out | refine below_set ?_ GE782.out) | exact HB.out)⟩⟩
                  · replace c27 := Bool.eq_false_iff.mpr c27
                    subst c27
                    have H1 : (some false) = some r := by rw [if_neg (show ¬ (false = true) by decide)] at H; exact H
                    clear H
                    have H := H1
                    clear H1
                    obtain rfl := Option.some.inj H
                    have hnb32 := NB781_782.out
                    have hnc32 := NB782_781.out
                    have hcz33_0 : wr.cell? ⟨gb781, 0, none⟩ = some (.int .i64 a0_0) := (blk_cell BK781.out 0).trans rfl
                    have hcz33_1 : wr.cell? ⟨gb781, 1, none⟩ = some (.int .i64 a0_1) := (blk_cell BK781.out 1).trans rfl
                    have hcz33_2 : wr.cell? ⟨gb781, 2, none⟩ = some (.slice A0_2 l0_2.length c0_2) := (blk_cell BK781.out 2).trans rfl
                    have hcz33_3 : wr.cell? ⟨gb781, 3, none⟩ = some (.slice A0_3 l0_3.length c0_3) := (blk_cell BK781.out 3).trans rfl
                    have hfz33_0 := blk_frozen BK781.out 0
                    have hfz33_1 := blk_frozen BK781.out 1
                    have hfz33_2 := blk_frozen BK781.out 2
                    have hfz33_3 := blk_frozen BK781.out 3
                    try go_wp2
                    have n0_ := Aside0.mk (blk_drew BK781.out)
                    have n1_ := Aside0.mk (blk_drew BK782.out)
                    have n2_ := Aside0.mk (below_drew1 HB.out)
                    clear BK781
                    clear BK782
                    clear HB
                    have BK781 := n0_
                    have BK782 := n1_
                    have HB := n2_
                    clear n0_ n1_ n2_
                    have p784 : 0 ≤ (x5_2 : Int) := of_decide_eq_true (by first | (with_reducible assumption) | assumption)
                    have q784 : x5_2 < (l0_3.length : Int) := of_decide_eq_true (by first | (with_reducible assumption) | assumption)
                    obtain ⟨ad784, A784_2, c784_2, A784_3, c784_3, e784, hx784_0, hx784_1, hx784_2, hx784_3, hl784_2, hi784_2, hl784_3, hi784_3⟩ := at_T48 HR0_3.out x5_2 p784 q784
                    have hw784_3 := hx784_3
                    have hw784_2 := hx784_2
                    have hw784_1 := hx784_1
                    have hw784_0 := hx784_0
                    cases e784
                    replace hx784_0 := (HB.out.cell (World.block_lt_of_cell? w _ hx784_0)).trans hx784_0
                    replace hx784_1 := (HB.out.cell (World.block_lt_of_cell? w _ hx784_1)).trans hx784_1
                    replace hx784_2 := (HB.out.cell (World.block_lt_of_cell? w _ hx784_2)).trans hx784_2
                    replace hx784_3 := (HB.out.cell (World.block_lt_of_cell? w _ hx784_3)).trans hx784_3
                    have HR784_2 := Aside0.mk hi784_2
                    have HC784_2 := Aside0.mk hl784_2
                    clear hi784_2 hl784_2
                    have HR784_3 := Aside0.mk hi784_3
                    have HC784_3 := Aside0.mk hl784_3
                    clear hi784_3 hl784_3
                    replace p784 := eq_true p784
                    replace q784 := eq_true q784
                    have p785 : 0 ≤ (x5_2 : Int) := of_decide_eq_true (by first | (with_reducible assumption) | assumption)
                    have q785 : x5_2 < (l1_3.length : Int) := of_decide_eq_true (by first | (with_reducible assumption) | assumption)
                    obtain ⟨ad785, A785_2, c785_2, A785_3, c785_3, e785, hx785_0, hx785_1, hx785_2, hx785_3, hl785_2, hi785_2, hl785_3, hi785_3⟩ := at_T48 HR1_3.out x5_2 p785 q785
                    have hw785_3 := hx785_3
                    have hw785_2 := hx785_2
                    have hw785_1 := hx785_1
                    have hw785_0 := hx785_0
                    cases e785
                    replace hx785_0 := (HB.out.cell (World.block_lt_of_cell? w _ hx785_0)).trans hx785_0
                    replace hx785_1 := (HB.out.cell (World.block_lt_of_cell? w _ hx785_1)).trans hx785_1
                    replace hx785_2 := (HB.out.cell (World.block_lt_of_cell? w _ hx785_2)).trans hx785_2
                    replace hx785_3 := (HB.out.cell (World.block_lt_of_cell? w _ hx785_3)).trans hx785_3
                    have HR785_2 := Aside0.mk hi785_2
                    have HC785_2 := Aside0.mk hl785_2
                    clear hi785_2 hl785_2
                    have HR785_3 := Aside0.mk hi785_3
                    have HC785_3 := Aside0.mk hl785_3
                    clear hi785_3 hl785_3
                    replace p785 := eq_true p785
                    replace q785 := eq_true q785
                    refine start_ (n := 12) (S := fun w' => w'.cell? ⟨gb781, 0, none⟩ = some (.int .i64 a0_0) ∧ w'.cell? ⟨gb781, 1, none⟩ = some (.int .i64 a0_1) ∧ w'.cell? ⟨gb781, 2, none⟩ = some (.slice A0_2 l0_2.length c0_2) ∧ w'.cell? ⟨gb781, 3, none⟩ = some (.slice (some ad784) l0_3.length c0_3) ∧ w'.cell? ⟨gb782, 0, none⟩ = some (.int .i64 a1_0) ∧ w'.cell? ⟨gb782, 1, none⟩ = some (.int .i64 a1_1) ∧ w'.cell? ⟨gb782, 2, none⟩ = some (.slice A1_2 l1_2.length c1_2) ∧ w'.cell? ⟨gb782, 3, none⟩ = some (.slice (some ad785) l1_3.length c1_3) ∧ w'.cell? (ad784.add ((x5_2).toNat * 4)) = some (.int .i64 ((rd_T48 l0_3 x5_2).f0)) ∧ w'.cell? ⟨(ad784.add ((x5_2).toNat * 4)).block, (ad784.add ((x5_2).toNat * 4)).off + 1, none⟩ = some (.int .i64 ((rd_T48 l0_3 x5_2).f1)) ∧ w'.cell? ⟨(ad784.add ((x5_2).toNat * 4)).block, (ad784.add ((x5_2).toNat * 4)).off + 2, none⟩ = some (.slice A784_2 ((rd_T48 l0_3 x5_2).f2).length c784_2) ∧ w'.cell? ⟨(ad784.add ((x5_2).toNat * 4)).block, (ad784.add ((x5_2).toNat * 4)).off + 3, none⟩ = some (.slice A784_3 ((rd_T48 l0_3 x5_2).f3).length c784_3) ∧ w'.cell? (ad785.add ((x5_2).toNat * 4)) = some (.int .i64 ((rd_T48 l1_3 x5_2).f0)) ∧ w'.cell? ⟨(ad785.add ((x5_2).toNat * 4)).block, (ad785.add ((x5_2).toNat * 4)).off + 1, none⟩ = some (.int .i64 ((rd_T48 l1_3 x5_2).f1)) ∧ w'.cell? ⟨(ad785.add ((x5_2).toNat * 4)).block, (ad785.add ((x5_2).toNat * 4)).off + 2, none⟩ = some (.slice A785_2 ((rd_T48 l1_3 x5_2).f2).length c785_2) ∧ w'.cell? ⟨(ad785.add ((x5_2).toNat * 4)).block, (ad785.add ((x5_2).toNat * 4)).off + 3, none⟩ = some (.slice A785_3 ((rd_T48 l1_3 x5_2).f3).length c785_3)) (ds := []) #[false, false, false, false, false, false, false, false, false, false, false, false] (by kernel_rfl) rfl rfl ⟨(blk_cell BK781.out 0).trans rfl, (blk_cell BK781.out 1).trans rfl, (blk_cell BK781.out 2).trans rfl, (blk_cell BK781.out 3).trans rfl, (blk_cell BK782.out 0).trans rfl, (blk_cell BK782.out 1).trans rfl, (blk_cell BK782.out 2).trans rfl, (blk_cell BK782.out 3).trans rfl, ((HB.out.cell (World.block_lt_of_cell? w _ hw784_0)).trans hw784_0), ((HB.out.cell (World.block_lt_of_cell? w _ hw784_1)).trans hw784_1), ((HB.out.cell (World.block_lt_of_cell? w _ hw784_2)).trans hw784_2), ((HB.out.cell (World.block_lt_of_cell? w _ hw784_3)).trans hw784_3), ((HB.out.cell (World.block_lt_of_cell? w _ hw785_0)).trans hw785_0), ((HB.out.cell (World.block_lt_of_cell? w _ hw785_1)).trans hw785_1), ((HB.out.cell (World.block_lt_of_cell? w _ hw785_2)).trans hw785_2), ((HB.out.cell (World.block_lt_of_cell? w _ hw785_3)).trans hw785_3)⟩ (fun hHeld => ?_); refine with_tabW spec_l2Equal.tab6 spec_l2Equal.bits6 (fun HT_ HW_ => ?_)
                    generalize wr.drew = w34 at BK781 BK782 HB HR784_2 HR784_3 HR785_2 HR785_3 hx784_0 hx784_1 hx784_2 hx784_3 hx785_0 hx785_1 hx785_2 hx785_3 hHeld ⊢
                    refine pure_ (i := 0) (N := some 42) (v := ?_) (a' := ?_) #[true, false, false, false, false, false, false, false, false, false, false, false] rfl rfl (any_of HT_.out (by kernel_rfl)) (fun _ _ _ h => h) (Or.inl ⟨by rfl, ?_⟩) ?_ ?_
                    rotate_left
                    · intro w'
                      go_simp
                      with_reducible rfl
                    rotate_left
                    · simp only [Act.put, List.setIfInBounds_toArray, List.set_cons_zero, List.set_cons_succ, i64_w, i32_w]
                      rfl
                    refine pure_ (i := 2) (N := some 44) (v := ?_) (a' := ?_) #[true, false, true, false, false, false, false, false, false, false, false, false] rfl rfl (any_of HT_.out (by kernel_rfl)) (fun _ _ _ h => h) (Or.inl ⟨by rfl, ?_⟩) ?_ ?_
                    rotate_left
                    · intro w'
                      go_simp
                      with_reducible rfl
                    rotate_left
                    · simp only [Act.put, List.setIfInBounds_toArray, List.set_cons_zero, List.set_cons_succ, i64_w, i32_w]
                      rfl
                    refine pure_ (i := 5) (N := some 47) (v := ?_) (a' := ?_) #[true, false, true, false, false, true, false, false, false, false, false, false] rfl rfl (any_of HT_.out (by kernel_rfl)) (fun _ _ _ h => h) (Or.inl ⟨by rfl, ?_⟩) ?_ ?_
                    rotate_left
                    · intro w'
                      go_simp
                      with_reducible rfl
                    rotate_left
                    · simp only [Act.put, List.setIfInBounds_toArray, List.set_cons_zero, List.set_cons_succ, i64_w, i32_w]
                      rfl
                    refine pure_ (i := 7) (N := some 49) (v := ?_) (a' := ?_) #[true, false, true, false, false, true, false, true, false, false, false, false] rfl rfl (any_of HT_.out (by kernel_rfl)) (fun _ _ _ h => h) (Or.inl ⟨by rfl, ?_⟩) ?_ ?_
                    rotate_left
                    · intro w'
                      go_simp
                      with_reducible rfl
                    rotate_left
                    · simp only [Act.put, List.setIfInBounds_toArray, List.set_cons_zero, List.set_cons_succ, i64_w, i32_w]
                      rfl
                    refine take_ (i := 1) (N := some 43) (v := ?_) (a' := ?_) #[true, true, true, false, false, true, false, true, false, false, false, false] rfl rfl (take_ofW HT_.out HW_.out (by kernel_rfl)) (fun _ _ _ h => h) (Or.inl ⟨by rfl, ?_⟩) hHeld ?_ ?_
                    rotate_left
                    · rintro w' ⟨s0, s1, s2, s3, s4, s5, s6, s7, s8, s9, s10, s11, s12, s13, s14, s15⟩
                      go_simp
                      with_reducible rfl
                    rotate_left
                    · simp only [Act.put, List.setIfInBounds_toArray, List.set_cons_zero, List.set_cons_succ, i64_w, i32_w]
                      rfl
                    refine pure_ (i := 3) (N := some 45) (v := ?_) (a' := ?_) #[true, true, true, true, false, true, false, true, false, false, false, false] rfl rfl (any_of HT_.out (by kernel_rfl)) (fun _ _ _ h => h) (Or.inl ⟨by rfl, ?_⟩) ?_ ?_
                    rotate_left
                    · intro w'
                      go_simp
                      with_reducible rfl
                    rotate_left
                    · simp only [Act.put, List.setIfInBounds_toArray, List.set_cons_zero, List.set_cons_succ, i64_w, i32_w]
                      rfl
                    refine take_ (i := 4) (N := some 46) (v := ?_) (a' := ?_) #[true, true, true, true, true, true, false, true, false, false, false, false] rfl rfl (take_ofW HT_.out HW_.out (by kernel_rfl)) (fun _ _ _ h => h) (Or.inl ⟨by rfl, ?_⟩) hHeld ?_ ?_
                    rotate_left
                    · rintro w' ⟨s0, s1, s2, s3, s4, s5, s6, s7, s8, s9, s10, s11, s12, s13, s14, s15⟩
                      go_simp
                      with_reducible rfl
                    rotate_left
                    · simp only [Act.put, List.setIfInBounds_toArray, List.set_cons_zero, List.set_cons_succ, i64_w, i32_w]
                      rfl
                    refine take_ (i := 6) (N := some 48) (v := ?_) (a' := ?_) #[true, true, true, true, true, true, true, true, false, false, false, false] rfl rfl (take_ofW HT_.out HW_.out (by kernel_rfl)) (fun _ _ _ h => h) (Or.inl ⟨by rfl, ?_⟩) hHeld ?_ ?_
                    rotate_left
                    · rintro w' ⟨s0, s1, s2, s3, s4, s5, s6, s7, s8, s9, s10, s11, s12, s13, s14, s15⟩
                      go_simp
                      with_reducible rfl
                    rotate_left
                    · simp only [Act.put, List.setIfInBounds_toArray, List.set_cons_zero, List.set_cons_succ, i64_w, i32_w]
                      rfl
                    refine pure_ (i := 8) (N := some 50) (v := ?_) (a' := ?_) #[true, true, true, true, true, true, true, true, true, false, false, false] rfl rfl (any_of HT_.out (by kernel_rfl)) (fun _ _ _ h => h) (Or.inl ⟨by rfl, ?_⟩) ?_ ?_
                    rotate_left
                    · intro w'
                      go_simp
                      with_reducible rfl
                    rotate_left
                    · simp only [Act.put, List.setIfInBounds_toArray, List.set_cons_zero, List.set_cons_succ, i64_w, i32_w]
                      rfl
                    refine take_ (i := 9) (N := some 51) (v := ?_) (a' := ?_) #[true, true, true, true, true, true, true, true, true, true, false, false] rfl rfl (take_ofW HT_.out HW_.out (by kernel_rfl)) (fun _ _ _ h => h) (Or.inl ⟨by rfl, ?_⟩) hHeld ?_ ?_
                    rotate_left
                    · rintro w' ⟨s0, s1, s2, s3, s4, s5, s6, s7, s8, s9, s10, s11, s12, s13, s14, s15⟩
                      go_simp
                      with_reducible rfl
                    rotate_left
                    · simp only [Act.put, List.setIfInBounds_toArray, List.set_cons_zero, List.set_cons_succ, i64_w, i32_w]
                      rfl
                    refine one_ (i := 10) (N := some 52) #[true, true, true, true, true, true, true, true, true, true, true, false] rfl rfl (one_of HT_.out (by kernel_rfl)) (by decide) (fun K hK => ?_)
                    refine goes_ Try.func78 (by kernel_rfl) rfl #[.agg #[.int .i64 ((rd_T48 l0_3 x5_2).f0), .int .i64 ((rd_T48 l0_3 x5_2).f1), .slice A784_2 ((rd_T48 l0_3 x5_2).f2).length c784_2, .slice A784_3 ((rd_T48 l0_3 x5_2).f3).length c784_3], .agg #[.int .i64 ((rd_T48 l1_3 x5_2).f0), .int .i64 ((rd_T48 l1_3 x5_2).f1), .slice A785_2 ((rd_T48 l1_3 x5_2).f2).length c785_2, .slice A785_3 ((rd_T48 l1_3 x5_2).f3).length c785_3]] (by rfl) rfl rfl (by (try simp only [List.map_toArray, List.map_cons, List.map_nil]); first | done | rfl | (simp only [List.length_drop, List.length_take]; rfl)) ?_
                    with_reducible refine (ih k2 (by have := HJ2.out; have := HK2.out; omega) ((rd_T48 l0_3 x5_2).f0) ((rd_T48 l0_3 x5_2).f1) _ _ ((rd_T48 l0_3 x5_2).f2) _ _ ((rd_T48 l0_3 x5_2).f3) ((rd_T48 l1_3 x5_2).f0) ((rd_T48 l1_3 x5_2).f1) _ _ ((rd_T48 l1_3 x5_2).f2) _ _ ((rd_T48 l1_3 x5_2).f3) false _ ?side1 ?side2 ?side3 ?side4 ?side5 ?side6 ?side7 ?side8 A26.out).mono ?_
                    (case side1 => repeat (first | exact (Kd.C_below HR784_2.out HB.out) | (with_reducible refine Kd.C_alloc ?_ _) | (with_reducible refine Kd.C_drewN ?_ _) | (with_reducible refine Kd.C_drew ?_)))
                    (case side2 => exact HC784_2.out)
                    (case side3 => repeat (first | exact (Kd.C_below HR784_3.out HB.out) | (with_reducible refine Kd.C_alloc ?_ _) | (with_reducible refine Kd.C_drewN ?_ _) | (with_reducible refine Kd.C_drew ?_)))
                    (case side4 => exact HC784_3.out)
                    (case side5 => repeat (first | exact (Kd.C_below HR785_2.out HB.out) | (with_reducible refine Kd.C_alloc ?_ _) | (with_reducible refine Kd.C_drewN ?_ _) | (with_reducible refine Kd.C_drew ?_)))
                    (case side6 => exact HC785_2.out)
                    (case side7 => repeat (first | exact (Kd.C_below HR785_3.out HB.out) | (with_reducible refine Kd.C_alloc ?_ _) | (with_reducible refine Kd.C_drewN ?_ _) | (with_reducible refine Kd.C_drew ?_)))
                    (case side8 => exact HC785_3.out)
                    rintro e w35 ⟨rfl, hb⟩
                    refine ⟨_, rfl, ?_⟩
                    have n0_ := Aside0.mk (blk_below (g := gb781) (o := .cells #[.int .i64 a0_0, .int .i64 a0_1, .slice A0_2 l0_2.length c0_2, .slice (some ad784) l0_3.length c0_3] 48 (0, 0)) (by (with_reducible repeat (first | refine blk_drewN ?_ _ | refine blk_drew ?_ | refine blk_alloc ?_ _)); exact BK781.out) hb)
                    have n1_ := Aside0.mk (blk_below (g := gb782) (o := .cells #[.int .i64 a1_0, .int .i64 a1_1, .slice A1_2 l1_2.length c1_2, .slice (some ad785) l1_3.length c1_3] 48 (0, 0)) (by (with_reducible repeat (first | refine blk_drewN ?_ _ | refine blk_drew ?_ | refine blk_alloc ?_ _)); exact BK782.out) hb)
                    have n2_ := Aside0.mk (below_step (by repeat (first | (with_reducible first | exact HB.out | apply below_alloc | apply pw_below_drewN | apply below_drew1 | refine below_set ?_ GE781.out | refine below_set ?_ GE782.out) | exact HB.out)) hb)
                    clear BK781
                    clear BK782
                    clear HB
                    have BK781 := n0_
                    have BK782 := n1_
                    have HB := n2_
                    clear n0_ n1_ n2_
                    (try clear hb)
                    (try clear hb2)
                    (try clear hk)
                    (try clear hi)
                    refine hK.out _ _ ⟨(blk_cell BK781.out 0).trans rfl, (blk_cell BK781.out 1).trans rfl, (blk_cell BK781.out 2).trans rfl, (blk_cell BK781.out 3).trans rfl, (blk_cell BK782.out 0).trans rfl, (blk_cell BK782.out 1).trans rfl, (blk_cell BK782.out 2).trans rfl, (blk_cell BK782.out 3).trans rfl, ((HB.out.cell (World.block_lt_of_cell? w _ hw784_0)).trans hw784_0), ((HB.out.cell (World.block_lt_of_cell? w _ hw784_1)).trans hw784_1), ((HB.out.cell (World.block_lt_of_cell? w _ hw784_2)).trans hw784_2), ((HB.out.cell (World.block_lt_of_cell? w _ hw784_3)).trans hw784_3), ((HB.out.cell (World.block_lt_of_cell? w _ hw785_0)).trans hw785_0), ((HB.out.cell (World.block_lt_of_cell? w _ hw785_1)).trans hw785_1), ((HB.out.cell (World.block_lt_of_cell? w _ hw785_2)).trans hw785_2), ((HB.out.cell (World.block_lt_of_cell? w _ hw785_3)).trans hw785_3)⟩ (fun hHeld => ?_)
                    clear hK K
                    refine norm_ (a' := ?_) ?_ ?_
                    rotate_left
                    · show Act.put _ (some 52) _ = _
                      simp only [Act.put, List.setIfInBounds_toArray, List.set_cons_zero, List.set_cons_succ, i64_w, i32_w]
                      rfl
                    refine pure_ (i := 11) (N := some 53) (v := ?_) (a' := ?_) #[true, true, true, true, true, true, true, true, true, true, true, true] rfl rfl (any_of HT_.out (by kernel_rfl)) (fun _ _ _ h => h) (Or.inl ⟨by rfl, ?_⟩) ?_ ?_
                    rotate_left
                    · intro w'
                      go_simp
                      with_reducible rfl
                    rotate_left
                    · simp only [Act.put, List.setIfInBounds_toArray, List.set_cons_zero, List.set_cons_succ, i64_w, i32_w]
                      rfl
                    refine done_ (done_of HT_.out (by kernel_rfl)) ?_
                    try go_wp2
                    go_ret
                    exact ⟨by first | rfl | (simp [errW_none, errW_some] <;> rfl) | (simp [*, errW_none, errW_some] <;> rfl), by repeat (first | (with_reducible first | exact HB.out | apply below_alloc | apply pw_below_drewN | apply below_drew1 | refine below_set ?_ GE781.out | refine below_set ?_ GE782.out) | exact HB.out)⟩
                · rw [if_neg c25] at H
                  exact absurd H (by simp)
              · rw [if_neg c24] at H
                exact absurd H (by simp)
            · rw [if_neg c23] at H
              have c23b0 : decide (x5_2 < (l0_3.length : Int)) = false := decide_eq_false c23
              clear c23
              obtain rfl := Option.some.inj H
              have hnb36 := NB781_782.out
              have hnc36 := NB782_781.out
              have hcz37_0 : wr.cell? ⟨gb781, 0, none⟩ = some (.int .i64 a0_0) := (blk_cell BK781.out 0).trans rfl
              have hcz37_1 : wr.cell? ⟨gb781, 1, none⟩ = some (.int .i64 a0_1) := (blk_cell BK781.out 1).trans rfl
              have hcz37_2 : wr.cell? ⟨gb781, 2, none⟩ = some (.slice A0_2 l0_2.length c0_2) := (blk_cell BK781.out 2).trans rfl
              have hcz37_3 : wr.cell? ⟨gb781, 3, none⟩ = some (.slice A0_3 l0_3.length c0_3) := (blk_cell BK781.out 3).trans rfl
              have hfz37_0 := blk_frozen BK781.out 0
              have hfz37_1 := blk_frozen BK781.out 1
              have hfz37_2 := blk_frozen BK781.out 2
              have hfz37_3 := blk_frozen BK781.out 3
              go_wp2
              go_ret
              exact ⟨by first | rfl | (simp [errW_none, errW_some] <;> rfl) | (simp [*, errW_none, errW_some] <;> rfl), by repeat (first | (with_reducible first | exact HB.out | apply below_alloc | apply pw_below_drewN | apply below_drew1 | refine below_set ?_ GE781.out | refine below_set ?_ GE782.out) | exact HB.out)⟩

end Go.Proofs.Ytnokgkhkmnldeaa.P
