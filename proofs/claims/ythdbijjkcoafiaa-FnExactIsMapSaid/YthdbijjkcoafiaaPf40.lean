-- Printed by this session's own program (wip/tools/mkprint.py) out of the translation. Not trusted: Lean checks it.
import Derived.Test.YthdbijjkcoafiaaP0
import Derived.Test.YthdbijjkcoafiaaPf16
import Derived.Test.YthdbijjkcoafiaaPf59
import Derived.Test.YthdbijjkcoafiaaPf61
import Derived.Test.YthdbijjkcoafiaaPf63
import Derived.Test.YthdbijjkcoafiaaPf65
namespace Go.Proofs.Ythdbijjkcoafiaa.P
open Go.RowKit Go.Proofs.YthdbijjkcoafiaaW.PrintWords Go.Proofs.YthdbijjkcoafiaaW.PrintLast Go.Proofs.YthdbijjkcoafiaaW.PrintMore
attribute [local go_sem] max2_int min2_int max_two min_two max_three min_three max_four min_four   -- for this text's walks alone
set_option linter.unusedVariables false
set_option linter.unusedSimpArgs false

/-! ### spec_IsMap: function 40 -/
mutual
def spec_IsMap.j0 : Nat → List Int → Bool → Int → List Int → List Int → List Bool → Int → List Int → List Int → List Bool → Option (Bool)
  | 0, _, _, _, _, _, _, _, _, _, _ => none
  | k + 1, x2, x24, x726000, x726001, x726002, x726003, x727000, x727001, x727002, x727003 => if x24 = true then (some false) else (spec_IsMap.l0 k x2 0 x726000 x726001 x726002 x726003 x727000 x727001 x727002 x727003)
def spec_IsMap.l0 : Nat → List Int → Int → Int → List Int → List Int → List Bool → Int → List Int → List Int → List Bool → Option (Bool)
  | 0, _, _, _, _, _, _, _, _, _, _ => none
  | k + 1, x2, x7, x726000, x726001, x726002, x726003, x727000, x727001, x727002, x727003 => if x7 < x726000 then (if 0 ≤ x7 then (if x7 < (x2.length : Int) then ((spec_l1In.f (rd x2 x7) 0 (wrap64 (x727000 - 1))).bind fun t730 => (if t730 = true then (spec_IsMap.l0 k x2 (wrap64 (x7 + 1)) x726000 x726001 x726002 x726003 x727000 x727001 x727002 x727003) else (some false))) else (none)) else (none)) else (spec_IsMap.l1 k x2 0 x726000 x726001 x726002 x726003 x727000 x727001 x727002 x727003)
def spec_IsMap.l1 : Nat → List Int → Int → Int → List Int → List Int → List Bool → Int → List Int → List Int → List Bool → Option (Bool)
  | 0, _, _, _, _, _, _, _, _, _, _ => none
  | k + 1, x2, x8, x726000, x726001, x726002, x726003, x727000, x727001, x727002, x727003 => if x8 < x726000 then (spec_IsMap.l2 k x2 x8 0 x726000 x726001 x726002 x726003 x727000 x727001 x727002 x727003) else (if 0 < (x2.length : Int) then (if (rd x2 0) = 0 then (if 1 < (x2.length : Int) then (some ((rd x2 1) == 1)) else (none)) else (some false)) else (none))
def spec_IsMap.l2 : Nat → List Int → Int → Int → Int → List Int → List Int → List Bool → Int → List Int → List Int → List Bool → Option (Bool)
  | 0, _, _, _, _, _, _, _, _, _, _, _ => none
  | k + 1, x2, x8, x9, x726000, x726001, x726002, x726003, x727000, x727001, x727002, x727003 => if x9 < x726000 then ((spec_l1Add.f x726000 x726001 x726002 x726003 x8 x9).bind fun t733 => (if 0 ≤ t733 then (if t733 < (x2.length : Int) then (if 0 ≤ x8 then (if x8 < (x2.length : Int) then (if 0 ≤ x9 then (if x9 < (x2.length : Int) then ((spec_l1Add.f x727000 x727001 x727002 x727003 (rd x2 x8) (rd x2 x9)).bind fun t737 => (if (rd x2 t733) = t737 then ((spec_l1Mul.f x726000 x726001 x726002 x726003 x8 x9).bind fun t738 => (if 0 ≤ t738 then (if t738 < (x2.length : Int) then ((spec_l1Mul.f x727000 x727001 x727002 x727003 (rd x2 x8) (rd x2 x9)).bind fun t742 => (if (rd x2 t738) = t742 then ((spec_l1Le.f x726000 x726001 x726002 x726003 x8 x9).bind fun t743 => (if t743 = true then ((spec_l1Le.f x727000 x727001 x727002 x727003 (rd x2 x8) (rd x2 x9)).bind fun t746 => (if t746 = true then (spec_IsMap.l2 k x2 x8 (wrap64 (x9 + 1)) x726000 x726001 x726002 x726003 x727000 x727001 x727002 x727003) else (some false))) else (spec_IsMap.l2 k x2 x8 (wrap64 (x9 + 1)) x726000 x726001 x726002 x726003 x727000 x727001 x727002 x727003))) else (some false))) else (none)) else (none))) else (some false))) else (none)) else (none)) else (none)) else (none)) else (none)) else (none))) else (spec_IsMap.l1 k x2 (wrap64 (x8 + 1)) x726000 x726001 x726002 x726003 x727000 x727001 x727002 x727003)
end
def spec_IsMap.f (k : Nat) (a0_0 : Int) (l0_1 : List Int) (l0_2 : List Int) (l0_3 : List Bool) (a1_0 : Int) (l1_1 : List Int) (l1_2 : List Int) (l1_3 : List Bool) (l2 : List Int) : Option (Bool) := (spec_IsSystem.f k a0_0 l0_1 l0_2 l0_3).bind fun t727 => (if t727 = true then ((spec_IsSystem.f k a1_0 l1_1 l1_2 l1_3).bind fun t728 => (if t728 = true then (spec_IsMap.j0 k l2 ((l2.length : Int) != a0_0) a0_0 l0_1 l0_2 l0_3 a1_0 l1_1 l1_2 l1_3) else (spec_IsMap.j0 k l2 true a0_0 l0_1 l0_2 l0_3 a1_0 l1_1 l1_2 l1_3))) else (spec_IsMap.j0 k l2 true a0_0 l0_1 l0_2 l0_3 a1_0 l1_1 l1_2 l1_3))
set_option maxHeartbeats 8000000 in
set_option maxRecDepth 100000 in
theorem spec_IsMap.calls (k : Nat) (a0_0 : Int) (A0_1 : Option Addr) (c0_1 : Nat) (l0_1 : List Int) (A0_2 : Option Addr) (c0_2 : Nat) (l0_2 : List Int) (A0_3 : Option Addr) (c0_3 : Nat) (l0_3 : List Bool) (a1_0 : Int) (A1_1 : Option Addr) (c1_1 : Nat) (l1_1 : List Int) (A1_2 : Option Addr) (c1_2 : Nat) (l1_2 : List Int) (A1_3 : Option Addr) (c1_3 : Nat) (l1_3 : List Bool) (A2 : Option Addr) (c2 : Nat) (l2 : List Int) (r : Bool) (w : World) (hr0_1 : Kd.C (Kd.int .i64) w A0_1 l0_1.length l0_1) (hc0_1 : l0_1.length ≤ c0_1) (hr0_2 : Kd.C (Kd.int .i64) w A0_2 l0_2.length l0_2) (hc0_2 : l0_2.length ≤ c0_2) (hr0_3 : Kd.C Kd.bool w A0_3 l0_3.length l0_3) (hc0_3 : l0_3.length ≤ c0_3) (hr1_1 : Kd.C (Kd.int .i64) w A1_1 l1_1.length l1_1) (hc1_1 : l1_1.length ≤ c1_1) (hr1_2 : Kd.C (Kd.int .i64) w A1_2 l1_2.length l1_2) (hc1_2 : l1_2.length ≤ c1_2) (hr1_3 : Kd.C Kd.bool w A1_3 l1_3.length l1_3) (hc1_3 : l1_3.length ≤ c1_3) (hr2 : Kd.C (Kd.int .i64) w A2 l2.length l2) (hc2 : l2.length ≤ c2) (h : spec_IsMap.f k a0_0 l0_1 l0_2 l0_3 a1_0 l1_1 l1_2 l1_3 l2 = some r) :
    Calls Try.prog 40 #[.agg #[.int .i64 a0_0, .slice A0_1 l0_1.length c0_1, .slice A0_2 l0_2.length c0_2, .slice A0_3 l0_3.length c0_3], .agg #[.int .i64 a1_0, .slice A1_1 l1_1.length c1_1, .slice A1_2 l1_2.length c1_2, .slice A1_3 l1_3.length c1_3], .slice A2 l2.length c2] w fun e w' => e = .returned (.bool r) ∧ Below w.heap.size w w' := by
  have hu28 := Try.underlying28
  have HR0_1 := Aside0.mk hr0_1
  have HC0_1 := Aside0.mk hc0_1
  clear hr0_1 hc0_1
  have HR0_2 := Aside0.mk hr0_2
  have HC0_2 := Aside0.mk hc0_2
  clear hr0_2 hc0_2
  have HR0_3 := Aside0.mk hr0_3
  have HC0_3 := Aside0.mk hc0_3
  clear hr0_3 hc0_3
  have HR1_1 := Aside0.mk hr1_1
  have HC1_1 := Aside0.mk hc1_1
  clear hr1_1 hc1_1
  have HR1_2 := Aside0.mk hr1_2
  have HC1_2 := Aside0.mk hc1_2
  clear hr1_2 hc1_2
  have HR1_3 := Aside0.mk hr1_3
  have HC1_3 := Aside0.mk hc1_3
  clear hr1_3 hc1_3
  have HR2 := Aside0.mk hr2
  have HC2 := Aside0.mk hc2
  clear hr2 hc2
  have HB := Aside0.mk (Below.refl w.heap.size w)
  have H : ((spec_IsSystem.f k a0_0 l0_1 l0_2 l0_3).bind fun t727 => (if t727 = true then ((spec_IsSystem.f k a1_0 l1_1 l1_2 l1_3).bind fun t728 => (if t728 = true then (spec_IsMap.j0 k l2 ((l2.length : Int) != a0_0) a0_0 l0_1 l0_2 l0_3 a1_0 l1_1 l1_2 l1_3) else (spec_IsMap.j0 k l2 true a0_0 l0_1 l0_2 l0_3 a1_0 l1_1 l1_2 l1_3))) else (spec_IsMap.j0 k l2 true a0_0 l0_1 l0_2 l0_3 a1_0 l1_1 l1_2 l1_3))) = some r := h
  clear h
  have HC4 := Aside0.mk H
  clear H
  go_enter Try.func40, Try.ntmps40
  go_upto_region 1 with (first | ((with_reducible refine gate_dst (N := 3) rfl ?_); (try (refine gate_guard (by rfl) ?_; dsimp only)); refine box_event ?hg (N := 3) ?hd (cs := #[.int .i64 a0_0, .slice A0_1 l0_1.length c0_1, .slice A0_2 l0_2.length c0_2, .slice A0_3 l0_3.length c0_3]) (t := 28) ?hr ?_; (case hd => rfl); (case hg => rfl); (case hr => first | (go_simp; done) | (go_simp; rfl)); intro gb725 hg w5 hbox hb; have n0_ := Aside0.mk (below_step (by repeat (first | (with_reducible first | exact HB.out | apply below_alloc | apply pw_below_drewN | apply below_drew1) | exact HB.out)) hb); have n1_ := Aside0.mk (hbox); have n2_ := Aside0.mk ((by rw [hg]; exact (below_size (by repeat (first | (with_reducible first | exact HB.out | apply below_alloc | apply pw_below_drewN | apply below_drew1) | exact HB.out))) : w.heap.size ≤ gb725)); have n3_ := Aside0.mk ((by rw [hg]; exact (below_size (by repeat (first | (with_reducible first | exact HB.out | apply below_alloc | apply pw_below_drewN | apply below_drew1) | exact HB.out))) : w.heap.size ≤ gb725)); clear HB; have HB := n0_; have BK725 := n1_; have GW725 := n2_; have GE725 := n3_; clear n0_ n1_ n2_ n3_; clear hb hbox hg) | ((with_reducible refine gate_dst (N := 4) rfl ?_); (try (refine gate_guard (by rfl) ?_; dsimp only)); refine box_event ?hg (N := 4) ?hd (cs := #[.int .i64 a1_0, .slice A1_1 l1_1.length c1_1, .slice A1_2 l1_2.length c1_2, .slice A1_3 l1_3.length c1_3]) (t := 28) ?hr ?_; (case hd => rfl); (case hg => rfl); (case hr => first | (go_simp; done) | (go_simp; rfl)); intro gb726 hg w6 hbox hb; have n0_ := Aside0.mk (blk_below (g := gb725) (o := .cells #[.int .i64 a0_0, .slice A0_1 l0_1.length c0_1, .slice A0_2 l0_2.length c0_2, .slice A0_3 l0_3.length c0_3] 28 (0, 0)) (by (with_reducible repeat (first | refine blk_drewN ?_ _ | refine blk_drew ?_ | refine blk_alloc ?_ _)); exact BK725.out) hb); have n1_ := Aside0.mk (below_step (by repeat (first | (with_reducible first | exact HB.out | apply below_alloc | apply pw_below_drewN | apply below_drew1 | refine below_set ?_ GE725.out) | exact HB.out)) hb); have n2_ := Aside0.mk (hbox); have n3_ := Aside0.mk ((by rw [hg]; exact (below_size (by repeat (first | (with_reducible first | exact HB.out | apply below_alloc | apply pw_below_drewN | apply below_drew1 | refine below_set ?_ GE725.out) | exact HB.out))) : w.heap.size ≤ gb726)); have n4_ := Aside0.mk ((by rw [hg]; exact (below_size (by repeat (first | (with_reducible first | exact HB.out | apply below_alloc | apply pw_below_drewN | apply below_drew1 | refine below_set ?_ GE725.out) | exact HB.out))) : w.heap.size ≤ gb726)); have n5_ := Aside0.mk ((by rw [hg]; exact Nat.ne_of_lt (blk_lt (g := gb725) (o := .cells #[.int .i64 a0_0, .slice A0_1 l0_1.length c0_1, .slice A0_2 l0_2.length c0_2, .slice A0_3 l0_3.length c0_3] 28 (0, 0)) (by (with_reducible repeat (first | refine blk_drewN ?_ _ | refine blk_drew ?_ | refine blk_alloc ?_ _)); exact BK725.out)) : gb725 ≠ gb726)); have n6_ := Aside0.mk ((by rw [hg]; exact Nat.ne_of_gt (blk_lt (g := gb725) (o := .cells #[.int .i64 a0_0, .slice A0_1 l0_1.length c0_1, .slice A0_2 l0_2.length c0_2, .slice A0_3 l0_3.length c0_3] 28 (0, 0)) (by (with_reducible repeat (first | refine blk_drewN ?_ _ | refine blk_drew ?_ | refine blk_alloc ?_ _)); exact BK725.out)) : gb726 ≠ gb725)); clear BK725; clear HB; have BK725 := n0_; have HB := n1_; have BK726 := n2_; have GW726 := n3_; have GE726 := n4_; have NB725_726 := n5_; have NB726_725 := n6_; clear n0_ n1_ n2_ n3_ n4_ n5_ n6_; clear hb hbox hg))
  (try simp only [Act.put, List.setIfInBounds_toArray, List.set_cons_zero, List.set_cons_succ])
  go_cut [24] (fun v24 wc => ∃ (kq : Nat) (x24_3 : Bool), v24 = .bool x24_3 ∧ Aside0 (spec_IsMap.j0 kq l2 x24_3 a0_0 l0_1 l0_2 l0_3 a1_0 l1_1 l1_2 l1_3 = some r) ∧ Aside0 (kq ≤ k) ∧ Aside0 (wc.heap[gb725]? = some (.cells #[.int .i64 a0_0, (.slice A0_1 l0_1.length c0_1), (.slice A0_2 l0_2.length c0_2), (.slice A0_3 l0_3.length c0_3)] 28 (0, 0))) ∧ Aside0 (wc.heap[gb726]? = some (.cells #[.int .i64 a1_0, (.slice A1_1 l1_1.length c1_1), (.slice A1_2 l1_2.length c1_2), (.slice A1_3 l1_3.length c1_3)] 28 (0, 0))) ∧ Aside0 (Below w.heap.size w wc))
  case first =>
    have H := HC4.out
    clear HC4
    replace H := Option.bind_eq_some_iff.mp H
    obtain ⟨t727, A70, H⟩ := H
    replace H : (if t727 = true then ((spec_IsSystem.f k a1_0 l1_1 l1_2 l1_3).bind fun t728 => (if t728 = true then (spec_IsMap.j0 k l2 ((l2.length : Int) != a0_0) a0_0 l0_1 l0_2 l0_3 a1_0 l1_1 l1_2 l1_3) else (spec_IsMap.j0 k l2 true a0_0 l0_1 l0_2 l0_3 a1_0 l1_1 l1_2 l1_3))) else (spec_IsMap.j0 k l2 true a0_0 l0_1 l0_2 l0_3 a1_0 l1_1 l1_2 l1_3)) = some r := H
    have A7 := Aside0.mk A70
    clear A70
    by_cases c8 : t727 = true
    · subst c8
      have H1 : ((spec_IsSystem.f k a1_0 l1_1 l1_2 l1_3).bind fun t728 => (if t728 = true then (spec_IsMap.j0 k l2 ((l2.length : Int) != a0_0) a0_0 l0_1 l0_2 l0_3 a1_0 l1_1 l1_2 l1_3) else (spec_IsMap.j0 k l2 true a0_0 l0_1 l0_2 l0_3 a1_0 l1_1 l1_2 l1_3))) = some r := by rw [if_pos rfl] at H; exact H
      clear H
      have H := H1
      clear H1
      replace H := Option.bind_eq_some_iff.mp H
      obtain ⟨t728, A90, H⟩ := H
      replace H : (if t728 = true then (spec_IsMap.j0 k l2 ((l2.length : Int) != a0_0) a0_0 l0_1 l0_2 l0_3 a1_0 l1_1 l1_2 l1_3) else (spec_IsMap.j0 k l2 true a0_0 l0_1 l0_2 l0_3 a1_0 l1_1 l1_2 l1_3)) = some r := H
      have A9 := Aside0.mk A90
      clear A90
      by_cases c10 : t728 = true
      · subst c10
        have H1 : (spec_IsMap.j0 k l2 ((l2.length : Int) != a0_0) a0_0 l0_1 l0_2 l0_3 a1_0 l1_1 l1_2 l1_3) = some r := by rw [if_pos rfl] at H; exact H
        clear H
        have H := H1
        clear H1
        have H' := Aside0.mk H
        clear H
        have hnb11 := NB725_726.out
        have hnc11 := NB726_725.out
        have hcz12_0 : w6.cell? ⟨gb725, 0, none⟩ = some (.int .i64 a0_0) := (blk_cell BK725.out 0).trans rfl
        have hcz12_1 : w6.cell? ⟨gb725, 1, none⟩ = some (.slice A0_1 l0_1.length c0_1) := (blk_cell BK725.out 1).trans rfl
        have hcz12_2 : w6.cell? ⟨gb725, 2, none⟩ = some (.slice A0_2 l0_2.length c0_2) := (blk_cell BK725.out 2).trans rfl
        have hcz12_3 : w6.cell? ⟨gb725, 3, none⟩ = some (.slice A0_3 l0_3.length c0_3) := (blk_cell BK725.out 3).trans rfl
        have hfz12_0 := blk_frozen BK725.out 0
        have hfz12_1 := blk_frozen BK725.out 1
        have hfz12_2 := blk_frozen BK725.out 2
        have hfz12_3 := blk_frozen BK725.out 3
        go_wp2_with (first | ((with_reducible refine gate_callee (f := 16) rfl ?_); refine goesL_ (some 11) rfl rfl Try.func16 (by kernel_rfl) rfl #[.agg #[.int .i64 a0_0, .slice A0_1 l0_1.length c0_1, .slice A0_2 l0_2.length c0_2, .slice A0_3 l0_3.length c0_3]] rfl (by (try simp only [List.map_toArray, List.map_cons, List.map_nil]); first | done | rfl | (simp only [List.length_drop, List.length_take]; rfl)) ?_; (with_reducible refine (spec_IsSystem.calls k a0_0 _ _ l0_1 _ _ l0_2 _ _ l0_3 true _ ?side1 ?side2 ?side3 ?side4 ?side5 ?side6 A7.out).mono ?_); (case side1 => repeat (first | exact (Kd.C_below HR0_1.out HB.out) | (with_reducible refine Kd.C_alloc ?_ _) | (with_reducible refine Kd.C_drewN ?_ _) | (with_reducible refine Kd.C_drew ?_))); (case side2 => exact HC0_1.out); (case side3 => repeat (first | exact (Kd.C_below HR0_2.out HB.out) | (with_reducible refine Kd.C_alloc ?_ _) | (with_reducible refine Kd.C_drewN ?_ _) | (with_reducible refine Kd.C_drew ?_))); (case side4 => exact HC0_2.out); (case side5 => repeat (first | exact (Kd.C_below HR0_3.out HB.out) | (with_reducible refine Kd.C_alloc ?_ _) | (with_reducible refine Kd.C_drewN ?_ _) | (with_reducible refine Kd.C_drew ?_))); (case side6 => exact HC0_3.out); rintro e w13 ⟨rfl, hb⟩; refine ⟨_, rfl, ?_⟩; have n0_ := Aside0.mk (blk_below (g := gb725) (o := .cells #[.int .i64 a0_0, .slice A0_1 l0_1.length c0_1, .slice A0_2 l0_2.length c0_2, .slice A0_3 l0_3.length c0_3] 28 (0, 0)) (by (with_reducible repeat (first | refine blk_drewN ?_ _ | refine blk_drew ?_ | refine blk_alloc ?_ _)); exact BK725.out) hb); have n1_ := Aside0.mk (blk_below (g := gb726) (o := .cells #[.int .i64 a1_0, .slice A1_1 l1_1.length c1_1, .slice A1_2 l1_2.length c1_2, .slice A1_3 l1_3.length c1_3] 28 (0, 0)) (by (with_reducible repeat (first | refine blk_drewN ?_ _ | refine blk_drew ?_ | refine blk_alloc ?_ _)); exact BK726.out) hb); have n2_ := Aside0.mk (below_step (by repeat (first | (with_reducible first | exact HB.out | apply below_alloc | apply pw_below_drewN | apply below_drew1 | refine below_set ?_ GE725.out | refine below_set ?_ GE726.out) | exact HB.out)) hb); clear BK725; clear BK726; clear HB; have BK725 := n0_; have BK726 := n1_; have HB := n2_; clear n0_ n1_ n2_; (try clear hb); (try clear hb2); (try clear hk); (try clear hi); have hcz14_0 : w13.cell? ⟨gb726, 0, none⟩ = some (.int .i64 a1_0) := (blk_cell BK726.out 0).trans rfl; have hcz14_1 : w13.cell? ⟨gb726, 1, none⟩ = some (.slice A1_1 l1_1.length c1_1) := (blk_cell BK726.out 1).trans rfl; have hcz14_2 : w13.cell? ⟨gb726, 2, none⟩ = some (.slice A1_2 l1_2.length c1_2) := (blk_cell BK726.out 2).trans rfl; have hcz14_3 : w13.cell? ⟨gb726, 3, none⟩ = some (.slice A1_3 l1_3.length c1_3) := (blk_cell BK726.out 3).trans rfl; have hfz14_0 := blk_frozen BK726.out 0; have hfz14_1 := blk_frozen BK726.out 1; have hfz14_2 := blk_frozen BK726.out 2; have hfz14_3 := blk_frozen BK726.out 3) | (go_at_call 16; (with_reducible refine (spec_IsSystem.calls k a1_0 _ _ l1_1 _ _ l1_2 _ _ l1_3 true _ ?side1 ?side2 ?side3 ?side4 ?side5 ?side6 A9.out).mono ?_); (case side1 => repeat (first | exact (Kd.C_below HR1_1.out HB.out) | (with_reducible refine Kd.C_alloc ?_ _) | (with_reducible refine Kd.C_drewN ?_ _) | (with_reducible refine Kd.C_drew ?_))); (case side2 => exact HC1_1.out); (case side3 => repeat (first | exact (Kd.C_below HR1_2.out HB.out) | (with_reducible refine Kd.C_alloc ?_ _) | (with_reducible refine Kd.C_drewN ?_ _) | (with_reducible refine Kd.C_drew ?_))); (case side4 => exact HC1_2.out); (case side5 => repeat (first | exact (Kd.C_below HR1_3.out HB.out) | (with_reducible refine Kd.C_alloc ?_ _) | (with_reducible refine Kd.C_drewN ?_ _) | (with_reducible refine Kd.C_drew ?_))); (case side6 => exact HC1_3.out); rintro e w15 ⟨rfl, hb⟩; have n0_ := Aside0.mk (blk_below (g := gb725) (o := .cells #[.int .i64 a0_0, .slice A0_1 l0_1.length c0_1, .slice A0_2 l0_2.length c0_2, .slice A0_3 l0_3.length c0_3] 28 (0, 0)) (by (with_reducible repeat (first | refine blk_drewN ?_ _ | refine blk_drew ?_ | refine blk_alloc ?_ _)); exact BK725.out) hb); have n1_ := Aside0.mk (blk_below (g := gb726) (o := .cells #[.int .i64 a1_0, .slice A1_1 l1_1.length c1_1, .slice A1_2 l1_2.length c1_2, .slice A1_3 l1_3.length c1_3] 28 (0, 0)) (by (with_reducible repeat (first | refine blk_drewN ?_ _ | refine blk_drew ?_ | refine blk_alloc ?_ _)); exact BK726.out) hb); have n2_ := Aside0.mk (below_step (by repeat (first | (with_reducible first | exact HB.out | apply below_alloc | apply pw_below_drewN | apply below_drew1 | refine below_set ?_ GE725.out | refine below_set ?_ GE726.out) | exact HB.out)) hb); clear BK725; clear BK726; clear HB; have BK725 := n0_; have BK726 := n1_; have HB := n2_; clear n0_ n1_ n2_; (try clear hb); (try clear hb2); (try clear hk); (try clear hi); have hcz16_0 : w15.cell? ⟨gb725, 0, none⟩ = some (.int .i64 a0_0) := (blk_cell BK725.out 0).trans rfl; have hcz16_1 : w15.cell? ⟨gb725, 1, none⟩ = some (.slice A0_1 l0_1.length c0_1) := (blk_cell BK725.out 1).trans rfl; have hcz16_2 : w15.cell? ⟨gb725, 2, none⟩ = some (.slice A0_2 l0_2.length c0_2) := (blk_cell BK725.out 2).trans rfl; have hcz16_3 : w15.cell? ⟨gb725, 3, none⟩ = some (.slice A0_3 l0_3.length c0_3) := (blk_cell BK725.out 3).trans rfl; have hfz16_0 := blk_frozen BK725.out 0; have hfz16_1 := blk_frozen BK725.out 1; have hfz16_2 := blk_frozen BK725.out 2; have hfz16_3 := blk_frozen BK725.out 3))
        go_meet
        case rel => exact ⟨_, (((l2.length : Int) != a0_0)), (by first | rfl | (simp; done) | (simp [*]; done)), H', ⟨by first | omega | exact Nat.le_refl _⟩, ⟨by (with_reducible repeat (first | refine blk_drewN ?_ _ | refine blk_drew ?_ | refine blk_alloc ?_ _)); exact BK725.out⟩, ⟨by (with_reducible repeat (first | refine blk_drewN ?_ _ | refine blk_drew ?_ | refine blk_alloc ?_ _)); exact BK726.out⟩, ⟨by repeat (first | (with_reducible first | exact HB.out | apply below_alloc | apply pw_below_drewN | apply below_drew1 | refine below_set ?_ GE725.out | refine below_set ?_ GE726.out) | exact HB.out)⟩⟩
      · replace c10 := Bool.eq_false_iff.mpr c10
        subst c10
        have H1 : (spec_IsMap.j0 k l2 true a0_0 l0_1 l0_2 l0_3 a1_0 l1_1 l1_2 l1_3) = some r := by rw [if_neg (show ¬ (false = true) by decide)] at H; exact H
        clear H
        have H := H1
        clear H1
        have H' := Aside0.mk H
        clear H
        have hnb17 := NB725_726.out
        have hnc17 := NB726_725.out
        have hcz18_0 : w6.cell? ⟨gb725, 0, none⟩ = some (.int .i64 a0_0) := (blk_cell BK725.out 0).trans rfl
        have hcz18_1 : w6.cell? ⟨gb725, 1, none⟩ = some (.slice A0_1 l0_1.length c0_1) := (blk_cell BK725.out 1).trans rfl
        have hcz18_2 : w6.cell? ⟨gb725, 2, none⟩ = some (.slice A0_2 l0_2.length c0_2) := (blk_cell BK725.out 2).trans rfl
        have hcz18_3 : w6.cell? ⟨gb725, 3, none⟩ = some (.slice A0_3 l0_3.length c0_3) := (blk_cell BK725.out 3).trans rfl
        have hfz18_0 := blk_frozen BK725.out 0
        have hfz18_1 := blk_frozen BK725.out 1
        have hfz18_2 := blk_frozen BK725.out 2
        have hfz18_3 := blk_frozen BK725.out 3
        go_wp2_with (first | ((with_reducible refine gate_callee (f := 16) rfl ?_); refine goesL_ (some 11) rfl rfl Try.func16 (by kernel_rfl) rfl #[.agg #[.int .i64 a0_0, .slice A0_1 l0_1.length c0_1, .slice A0_2 l0_2.length c0_2, .slice A0_3 l0_3.length c0_3]] rfl (by (try simp only [List.map_toArray, List.map_cons, List.map_nil]); first | done | rfl | (simp only [List.length_drop, List.length_take]; rfl)) ?_; (with_reducible refine (spec_IsSystem.calls k a0_0 _ _ l0_1 _ _ l0_2 _ _ l0_3 true _ ?side1 ?side2 ?side3 ?side4 ?side5 ?side6 A7.out).mono ?_); (case side1 => repeat (first | exact (Kd.C_below HR0_1.out HB.out) | (with_reducible refine Kd.C_alloc ?_ _) | (with_reducible refine Kd.C_drewN ?_ _) | (with_reducible refine Kd.C_drew ?_))); (case side2 => exact HC0_1.out); (case side3 => repeat (first | exact (Kd.C_below HR0_2.out HB.out) | (with_reducible refine Kd.C_alloc ?_ _) | (with_reducible refine Kd.C_drewN ?_ _) | (with_reducible refine Kd.C_drew ?_))); (case side4 => exact HC0_2.out); (case side5 => repeat (first | exact (Kd.C_below HR0_3.out HB.out) | (with_reducible refine Kd.C_alloc ?_ _) | (with_reducible refine Kd.C_drewN ?_ _) | (with_reducible refine Kd.C_drew ?_))); (case side6 => exact HC0_3.out); rintro e w19 ⟨rfl, hb⟩; refine ⟨_, rfl, ?_⟩; have n0_ := Aside0.mk (blk_below (g := gb725) (o := .cells #[.int .i64 a0_0, .slice A0_1 l0_1.length c0_1, .slice A0_2 l0_2.length c0_2, .slice A0_3 l0_3.length c0_3] 28 (0, 0)) (by (with_reducible repeat (first | refine blk_drewN ?_ _ | refine blk_drew ?_ | refine blk_alloc ?_ _)); exact BK725.out) hb); have n1_ := Aside0.mk (blk_below (g := gb726) (o := .cells #[.int .i64 a1_0, .slice A1_1 l1_1.length c1_1, .slice A1_2 l1_2.length c1_2, .slice A1_3 l1_3.length c1_3] 28 (0, 0)) (by (with_reducible repeat (first | refine blk_drewN ?_ _ | refine blk_drew ?_ | refine blk_alloc ?_ _)); exact BK726.out) hb); have n2_ := Aside0.mk (below_step (by repeat (first | (with_reducible first | exact HB.out | apply below_alloc | apply pw_below_drewN | apply below_drew1 | refine below_set ?_ GE725.out | refine below_set ?_ GE726.out) | exact HB.out)) hb); clear BK725; clear BK726; clear HB; have BK725 := n0_; have BK726 := n1_; have HB := n2_; clear n0_ n1_ n2_; (try clear hb); (try clear hb2); (try clear hk); (try clear hi); have hcz20_0 : w19.cell? ⟨gb726, 0, none⟩ = some (.int .i64 a1_0) := (blk_cell BK726.out 0).trans rfl; have hcz20_1 : w19.cell? ⟨gb726, 1, none⟩ = some (.slice A1_1 l1_1.length c1_1) := (blk_cell BK726.out 1).trans rfl; have hcz20_2 : w19.cell? ⟨gb726, 2, none⟩ = some (.slice A1_2 l1_2.length c1_2) := (blk_cell BK726.out 2).trans rfl; have hcz20_3 : w19.cell? ⟨gb726, 3, none⟩ = some (.slice A1_3 l1_3.length c1_3) := (blk_cell BK726.out 3).trans rfl; have hfz20_0 := blk_frozen BK726.out 0; have hfz20_1 := blk_frozen BK726.out 1; have hfz20_2 := blk_frozen BK726.out 2; have hfz20_3 := blk_frozen BK726.out 3) | (go_at_call 16; (with_reducible refine (spec_IsSystem.calls k a1_0 _ _ l1_1 _ _ l1_2 _ _ l1_3 false _ ?side1 ?side2 ?side3 ?side4 ?side5 ?side6 A9.out).mono ?_); (case side1 => repeat (first | exact (Kd.C_below HR1_1.out HB.out) | (with_reducible refine Kd.C_alloc ?_ _) | (with_reducible refine Kd.C_drewN ?_ _) | (with_reducible refine Kd.C_drew ?_))); (case side2 => exact HC1_1.out); (case side3 => repeat (first | exact (Kd.C_below HR1_2.out HB.out) | (with_reducible refine Kd.C_alloc ?_ _) | (with_reducible refine Kd.C_drewN ?_ _) | (with_reducible refine Kd.C_drew ?_))); (case side4 => exact HC1_2.out); (case side5 => repeat (first | exact (Kd.C_below HR1_3.out HB.out) | (with_reducible refine Kd.C_alloc ?_ _) | (with_reducible refine Kd.C_drewN ?_ _) | (with_reducible refine Kd.C_drew ?_))); (case side6 => exact HC1_3.out); rintro e w21 ⟨rfl, hb⟩; have n0_ := Aside0.mk (blk_below (g := gb725) (o := .cells #[.int .i64 a0_0, .slice A0_1 l0_1.length c0_1, .slice A0_2 l0_2.length c0_2, .slice A0_3 l0_3.length c0_3] 28 (0, 0)) (by (with_reducible repeat (first | refine blk_drewN ?_ _ | refine blk_drew ?_ | refine blk_alloc ?_ _)); exact BK725.out) hb); have n1_ := Aside0.mk (blk_below (g := gb726) (o := .cells #[.int .i64 a1_0, .slice A1_1 l1_1.length c1_1, .slice A1_2 l1_2.length c1_2, .slice A1_3 l1_3.length c1_3] 28 (0, 0)) (by (with_reducible repeat (first | refine blk_drewN ?_ _ | refine blk_drew ?_ | refine blk_alloc ?_ _)); exact BK726.out) hb); have n2_ := Aside0.mk (below_step (by repeat (first | (with_reducible first | exact HB.out | apply below_alloc | apply pw_below_drewN | apply below_drew1 | refine below_set ?_ GE725.out | refine below_set ?_ GE726.out) | exact HB.out)) hb); clear BK725; clear BK726; clear HB; have BK725 := n0_; have BK726 := n1_; have HB := n2_; clear n0_ n1_ n2_; (try clear hb); (try clear hb2); (try clear hk); (try clear hi)))
        go_meet
        case rel => exact ⟨_, (true), (by first | rfl | (simp; done) | (simp [*]; done)), H', ⟨by first | omega | exact Nat.le_refl _⟩, ⟨by (with_reducible repeat (first | refine blk_drewN ?_ _ | refine blk_drew ?_ | refine blk_alloc ?_ _)); exact BK725.out⟩, ⟨by (with_reducible repeat (first | refine blk_drewN ?_ _ | refine blk_drew ?_ | refine blk_alloc ?_ _)); exact BK726.out⟩, ⟨by repeat (first | (with_reducible first | exact HB.out | apply below_alloc | apply pw_below_drewN | apply below_drew1 | refine below_set ?_ GE725.out | refine below_set ?_ GE726.out) | exact HB.out)⟩⟩
    · replace c8 := Bool.eq_false_iff.mpr c8
      subst c8
      have H1 : (spec_IsMap.j0 k l2 true a0_0 l0_1 l0_2 l0_3 a1_0 l1_1 l1_2 l1_3) = some r := by rw [if_neg (show ¬ (false = true) by decide)] at H; exact H
      clear H
      have H := H1
      clear H1
      have H' := Aside0.mk H
      clear H
      have hnb22 := NB725_726.out
      have hnc22 := NB726_725.out
      have hcz23_0 : w6.cell? ⟨gb725, 0, none⟩ = some (.int .i64 a0_0) := (blk_cell BK725.out 0).trans rfl
      have hcz23_1 : w6.cell? ⟨gb725, 1, none⟩ = some (.slice A0_1 l0_1.length c0_1) := (blk_cell BK725.out 1).trans rfl
      have hcz23_2 : w6.cell? ⟨gb725, 2, none⟩ = some (.slice A0_2 l0_2.length c0_2) := (blk_cell BK725.out 2).trans rfl
      have hcz23_3 : w6.cell? ⟨gb725, 3, none⟩ = some (.slice A0_3 l0_3.length c0_3) := (blk_cell BK725.out 3).trans rfl
      have hfz23_0 := blk_frozen BK725.out 0
      have hfz23_1 := blk_frozen BK725.out 1
      have hfz23_2 := blk_frozen BK725.out 2
      have hfz23_3 := blk_frozen BK725.out 3
      go_wp2_with (first | ((with_reducible refine gate_callee (f := 16) rfl ?_); refine goesL_ (some 11) rfl rfl Try.func16 (by kernel_rfl) rfl #[.agg #[.int .i64 a0_0, .slice A0_1 l0_1.length c0_1, .slice A0_2 l0_2.length c0_2, .slice A0_3 l0_3.length c0_3]] rfl (by (try simp only [List.map_toArray, List.map_cons, List.map_nil]); first | done | rfl | (simp only [List.length_drop, List.length_take]; rfl)) ?_; (with_reducible refine (spec_IsSystem.calls k a0_0 _ _ l0_1 _ _ l0_2 _ _ l0_3 false _ ?side1 ?side2 ?side3 ?side4 ?side5 ?side6 A7.out).mono ?_); (case side1 => repeat (first | exact (Kd.C_below HR0_1.out HB.out) | (with_reducible refine Kd.C_alloc ?_ _) | (with_reducible refine Kd.C_drewN ?_ _) | (with_reducible refine Kd.C_drew ?_))); (case side2 => exact HC0_1.out); (case side3 => repeat (first | exact (Kd.C_below HR0_2.out HB.out) | (with_reducible refine Kd.C_alloc ?_ _) | (with_reducible refine Kd.C_drewN ?_ _) | (with_reducible refine Kd.C_drew ?_))); (case side4 => exact HC0_2.out); (case side5 => repeat (first | exact (Kd.C_below HR0_3.out HB.out) | (with_reducible refine Kd.C_alloc ?_ _) | (with_reducible refine Kd.C_drewN ?_ _) | (with_reducible refine Kd.C_drew ?_))); (case side6 => exact HC0_3.out); rintro e w24 ⟨rfl, hb⟩; refine ⟨_, rfl, ?_⟩; have n0_ := Aside0.mk (blk_below (g := gb725) (o := .cells #[.int .i64 a0_0, .slice A0_1 l0_1.length c0_1, .slice A0_2 l0_2.length c0_2, .slice A0_3 l0_3.length c0_3] 28 (0, 0)) (by (with_reducible repeat (first | refine blk_drewN ?_ _ | refine blk_drew ?_ | refine blk_alloc ?_ _)); exact BK725.out) hb); have n1_ := Aside0.mk (blk_below (g := gb726) (o := .cells #[.int .i64 a1_0, .slice A1_1 l1_1.length c1_1, .slice A1_2 l1_2.length c1_2, .slice A1_3 l1_3.length c1_3] 28 (0, 0)) (by (with_reducible repeat (first | refine blk_drewN ?_ _ | refine blk_drew ?_ | refine blk_alloc ?_ _)); exact BK726.out) hb); have n2_ := Aside0.mk (below_step (by repeat (first | (with_reducible first | exact HB.out | apply below_alloc | apply pw_below_drewN | apply below_drew1 | refine below_set ?_ GE725.out | refine below_set ?_ GE726.out) | exact HB.out)) hb); clear BK725; clear BK726; clear HB; have BK725 := n0_; have BK726 := n1_; have HB := n2_; clear n0_ n1_ n2_; (try clear hb); (try clear hb2); (try clear hk); (try clear hi)))
      go_meet
      case rel => exact ⟨_, (true), (by first | rfl | (simp; done) | (simp [*]; done)), H', ⟨by first | omega | exact Nat.le_refl _⟩, ⟨by (with_reducible repeat (first | refine blk_drewN ?_ _ | refine blk_drew ?_ | refine blk_alloc ?_ _)); exact BK725.out⟩, ⟨by (with_reducible repeat (first | refine blk_drewN ?_ _ | refine blk_drew ?_ | refine blk_alloc ?_ _)); exact BK726.out⟩, ⟨by repeat (first | (with_reducible first | exact HB.out | apply below_alloc | apply pw_below_drewN | apply below_drew1 | refine below_set ?_ GE725.out | refine below_set ?_ GE726.out) | exact HB.out)⟩⟩
  case rest =>
    clear HC4
    try clear c1
    try clear c2
    try clear c4
    obtain ⟨kq, x24_3, rfl, HA, HJ3, BK725, BK726, HB⟩ := hcut
    cases kq with
    | zero => exact absurd HA.out (by simp [spec_IsMap.j0])
    | succ kj3 =>
      have H := HA.out
      clear HA
      simp only [spec_IsMap.j0] at H
      by_cases c25 : x24_3 = true
      · subst c25
        have H1 : (some false) = some r := by rw [if_pos rfl] at H; exact H
        clear H
        have H := H1
        clear H1
        obtain rfl := Option.some.inj H
        go_wp2
        go_ret
        exact ⟨by first | rfl | (simp [errW_none, errW_some] <;> rfl) | (simp [*, errW_none, errW_some] <;> rfl), by repeat (first | (with_reducible first | exact HB.out | apply below_alloc | apply pw_below_drewN | apply below_drew1 | refine below_set ?_ GE725.out | refine below_set ?_ GE726.out) | exact HB.out)⟩
      · replace c25 := Bool.eq_false_iff.mpr c25
        subst c25
        have H1 : (spec_IsMap.l0 kj3 l2 0 a0_0 l0_1 l0_2 l0_3 a1_0 l1_1 l1_2 l1_3) = some r := by rw [if_neg (show ¬ (false = true) by decide)] at H; exact H
        clear H
        have H := H1
        clear H1
        have H' := Aside0.mk H
        clear H
        go_wp2
        go_loopg [7] kj3 (fun kq v7 w' => ∃ (x7_2 : Int), v7 = .int .i64 x7_2 ∧ Aside0 (spec_IsMap.l0 kq l2 x7_2 a0_0 l0_1 l0_2 l0_3 a1_0 l1_1 l1_2 l1_3 = some r) ∧ Aside0 (kq ≤ kj3) ∧ Aside0 (w'.heap[gb725]? = some (.cells #[.int .i64 a0_0, (.slice A0_1 l0_1.length c0_1), (.slice A0_2 l0_2.length c0_2), (.slice A0_3 l0_3.length c0_3)] 28 (0, 0))) ∧ Aside0 (w'.heap[gb726]? = some (.cells #[.int .i64 a1_0, (.slice A1_1 l1_1.length c1_1), (.slice A1_2 l1_2.length c1_2), (.slice A1_3 l1_3.length c1_3)] 28 (0, 0))) ∧ Aside0 (Below w.heap.size w w'))
        case atStart => exact ⟨(0), (by first | rfl | (simp; done) | (simp [*]; done)), H', ⟨Nat.le_refl _⟩, ⟨by (with_reducible repeat (first | refine blk_drewN ?_ _ | refine blk_drew ?_ | refine blk_alloc ?_ _)); exact BK725.out⟩, ⟨by (with_reducible repeat (first | refine blk_drewN ?_ _ | refine blk_drew ?_ | refine blk_alloc ?_ _)); exact BK726.out⟩, ⟨by repeat (first | (with_reducible first | exact HB.out | apply below_alloc | apply pw_below_drewN | apply below_drew1 | refine below_set ?_ GE725.out | refine below_set ?_ GE726.out) | exact HB.out)⟩⟩
        case round =>
          clear H'
          try clear c1
          try clear c2
          try clear p2
          try clear c4
          try clear c25
          obtain ⟨x7_2, rfl, HA, HK2, BK725, BK726, HB⟩ := hrel
          cases gk with
          | zero => exact absurd HA.out (by simp [spec_IsMap.l0])
          | succ k2 =>
            have H := HA.out
            clear HA
            simp only [spec_IsMap.l0] at H
            by_cases c26 : x7_2 < a0_0
            · rw [if_pos c26] at H
              have c26b0 : decide (x7_2 < a0_0) = true := decide_eq_true c26
              clear c26
              by_cases c27 : 0 ≤ x7_2
              · rw [if_pos c27] at H
                have c27b0 : decide (0 ≤ x7_2) = true := decide_eq_true c27
                clear c27
                by_cases c28 : x7_2 < (l2.length : Int)
                · rw [if_pos c28] at H
                  have c28b0 : decide (x7_2 < (l2.length : Int)) = true := decide_eq_true c28
                  clear c28
                  replace H := Option.bind_eq_some_iff.mp H
                  obtain ⟨t730, A290, H⟩ := H
                  replace H : (if t730 = true then (spec_IsMap.l0 k2 l2 (wrap64 (x7_2 + 1)) a0_0 l0_1 l0_2 l0_3 a1_0 l1_1 l1_2 l1_3) else (some false)) = some r := H
                  have A29 := Aside0.mk A290
                  clear A290
                  by_cases c30 : t730 = true
                  · subst c30
                    have H1 : (spec_IsMap.l0 k2 l2 (wrap64 (x7_2 + 1)) a0_0 l0_1 l0_2 l0_3 a1_0 l1_1 l1_2 l1_3) = some r := by rw [if_pos rfl] at H; exact H
                    clear H
                    have H := H1
                    clear H1
                    have H' := Aside0.mk H
                    clear H
                    have hnb31 := NB725_726.out
                    have hnc31 := NB726_725.out
                    have hcz32_0 : wr.cell? ⟨gb725, 0, none⟩ = some (.int .i64 a0_0) := (blk_cell BK725.out 0).trans rfl
                    have hcz32_1 : wr.cell? ⟨gb725, 1, none⟩ = some (.slice A0_1 l0_1.length c0_1) := (blk_cell BK725.out 1).trans rfl
                    have hcz32_2 : wr.cell? ⟨gb725, 2, none⟩ = some (.slice A0_2 l0_2.length c0_2) := (blk_cell BK725.out 2).trans rfl
                    have hcz32_3 : wr.cell? ⟨gb725, 3, none⟩ = some (.slice A0_3 l0_3.length c0_3) := (blk_cell BK725.out 3).trans rfl
                    have hfz32_0 := blk_frozen BK725.out 0
                    have hfz32_1 := blk_frozen BK725.out 1
                    have hfz32_2 := blk_frozen BK725.out 2
                    have hfz32_3 := blk_frozen BK725.out 3
                    try go_wp2
                    have p729 : 0 ≤ (x7_2 : Int) := of_decide_eq_true (by first | (with_reducible assumption) | assumption)
                    have q729 : x7_2 < (l2.length : Int) := of_decide_eq_true (by first | (with_reducible assumption) | assumption)
                    obtain ⟨ad729, e729, hx729_0⟩ := Kd.at_int HR2.out x7_2 p729 q729
                    cases e729
                    replace hx729_0 := (HB.out.cell (World.block_lt_of_cell? w _ hx729_0)).trans hx729_0
                    replace p729 := eq_true p729
                    replace q729 := eq_true q729
                    refine qb_region (by kernel_rfl) (by kernel_rfl) ?_
                    repeat ((first | (apply qb_skip; (focus rfl)) | (refine qb_callN 38 rfl ?_; apply qb_call 38 rfl Try.func59 (by kernel_rfl) rfl rfl; (focus rfl); (focus (exact fun wq9 hb9 => qb_d hb9 (spec_l1In.calls (rd l2 x7_2) 0 (wrap64 (a1_0 - 1)) true _ A29.out))); (focus (rfl))) | (apply qb_val; (focus rfl); (focus (intro wq9 _; go_simp; with_reducible rfl))) | (apply qb_val; (focus rfl); (focus (intro wq9 hb9_; have hb9 : Below wr.heap.size wr wq9 := hb9_; have BK726 := Aside0.mk (blk_below BK726.out hb9); have hc9_726_0 : wq9.cell? ⟨gb726, 0, none⟩ = some (.int .i64 a1_0) := (blk_cell BK726.out 0).trans rfl; have hc9_726_1 : wq9.cell? ⟨gb726, 1, none⟩ = some (.slice A1_1 l1_1.length c1_1) := (blk_cell BK726.out 1).trans rfl; have hc9_726_2 : wq9.cell? ⟨gb726, 2, none⟩ = some (.slice A1_2 l1_2.length c1_2) := (blk_cell BK726.out 2).trans rfl; have hc9_726_3 : wq9.cell? ⟨gb726, 3, none⟩ = some (.slice A1_3 l1_3.length c1_3) := (blk_cell BK726.out 3).trans rfl; have hx729_0 := (hb9.cell (World.block_lt_of_cell? _ _ hx729_0)).trans hx729_0; go_simp; with_reducible rfl)))); (focus (simp only [Act.put, List.setIfInBounds_toArray, List.set_cons_zero, List.set_cons_succ, i64_w, i32_w]; rfl)))
                    refine qb_nil ?_
                    intro w33 hb
                    have n0_ := Aside0.mk (blk_below BK725.out hb)
                    have n1_ := Aside0.mk (blk_below BK726.out hb)
                    have n2_ := Aside0.mk (below_step HB.out hb)
                    clear BK725
                    clear BK726
                    clear HB
                    have BK725 := n0_
                    have BK726 := n1_
                    have HB := n2_
                    clear n0_ n1_ n2_
                    clear hb
                    (try clear HQ)
                    try go_wp2
                    go_roundg k2
                    case measure => have := HJ3.out; have := HK2.out; omega
                    case rel => exact ⟨(wrap64 (x7_2 + 1)), (by first | rfl | (simp; done) | (simp [*]; done)), H', ⟨by have := HJ3.out; have := HK2.out; omega⟩, ⟨by (with_reducible repeat (first | refine blk_drewN ?_ _ | refine blk_drew ?_ | refine blk_alloc ?_ _)); exact BK725.out⟩, ⟨by (with_reducible repeat (first | refine blk_drewN ?_ _ | refine blk_drew ?_ | refine blk_alloc ?_ _)); exact BK726.out⟩, ⟨by repeat (first | (with_reducible first | exact HB.out | apply below_alloc | apply pw_below_drewN | apply below_drew1 | refine below_set ?_ GE725.out | refine below_set ?_ GE726.out) | exact HB.out)⟩⟩
                  · replace c30 := Bool.eq_false_iff.mpr c30
                    subst c30
                    have H1 : (some false) = some r := by rw [if_neg (show ¬ (false = true) by decide)] at H; exact H
                    clear H
                    have H := H1
                    clear H1
                    obtain rfl := Option.some.inj H
                    have hnb34 := NB725_726.out
                    have hnc34 := NB726_725.out
                    have hcz35_0 : wr.cell? ⟨gb725, 0, none⟩ = some (.int .i64 a0_0) := (blk_cell BK725.out 0).trans rfl
                    have hcz35_1 : wr.cell? ⟨gb725, 1, none⟩ = some (.slice A0_1 l0_1.length c0_1) := (blk_cell BK725.out 1).trans rfl
                    have hcz35_2 : wr.cell? ⟨gb725, 2, none⟩ = some (.slice A0_2 l0_2.length c0_2) := (blk_cell BK725.out 2).trans rfl
                    have hcz35_3 : wr.cell? ⟨gb725, 3, none⟩ = some (.slice A0_3 l0_3.length c0_3) := (blk_cell BK725.out 3).trans rfl
                    have hfz35_0 := blk_frozen BK725.out 0
                    have hfz35_1 := blk_frozen BK725.out 1
                    have hfz35_2 := blk_frozen BK725.out 2
                    have hfz35_3 := blk_frozen BK725.out 3
                    try go_wp2
                    have p729 : 0 ≤ (x7_2 : Int) := of_decide_eq_true (by first | (with_reducible assumption) | assumption)
                    have q729 : x7_2 < (l2.length : Int) := of_decide_eq_true (by first | (with_reducible assumption) | assumption)
                    obtain ⟨ad729, e729, hx729_0⟩ := Kd.at_int HR2.out x7_2 p729 q729
                    cases e729
                    replace hx729_0 := (HB.out.cell (World.block_lt_of_cell? w _ hx729_0)).trans hx729_0
                    replace p729 := eq_true p729
                    replace q729 := eq_true q729
                    refine qb_region (by kernel_rfl) (by kernel_rfl) ?_
                    repeat ((first | (apply qb_skip; (focus rfl)) | (refine qb_callN 38 rfl ?_; apply qb_call 38 rfl Try.func59 (by kernel_rfl) rfl rfl; (focus rfl); (focus (exact fun wq9 hb9 => qb_d hb9 (spec_l1In.calls (rd l2 x7_2) 0 (wrap64 (a1_0 - 1)) false _ A29.out))); (focus (rfl))) | (apply qb_val; (focus rfl); (focus (intro wq9 _; go_simp; with_reducible rfl))) | (apply qb_val; (focus rfl); (focus (intro wq9 hb9_; have hb9 : Below wr.heap.size wr wq9 := hb9_; have BK726 := Aside0.mk (blk_below BK726.out hb9); have hc9_726_0 : wq9.cell? ⟨gb726, 0, none⟩ = some (.int .i64 a1_0) := (blk_cell BK726.out 0).trans rfl; have hc9_726_1 : wq9.cell? ⟨gb726, 1, none⟩ = some (.slice A1_1 l1_1.length c1_1) := (blk_cell BK726.out 1).trans rfl; have hc9_726_2 : wq9.cell? ⟨gb726, 2, none⟩ = some (.slice A1_2 l1_2.length c1_2) := (blk_cell BK726.out 2).trans rfl; have hc9_726_3 : wq9.cell? ⟨gb726, 3, none⟩ = some (.slice A1_3 l1_3.length c1_3) := (blk_cell BK726.out 3).trans rfl; have hx729_0 := (hb9.cell (World.block_lt_of_cell? _ _ hx729_0)).trans hx729_0; go_simp; with_reducible rfl)))); (focus (simp only [Act.put, List.setIfInBounds_toArray, List.set_cons_zero, List.set_cons_succ, i64_w, i32_w]; rfl)))
                    refine qb_nil ?_
                    intro w36 hb
                    have n0_ := Aside0.mk (blk_below BK725.out hb)
                    have n1_ := Aside0.mk (blk_below BK726.out hb)
                    have n2_ := Aside0.mk (below_step HB.out hb)
                    clear BK725
                    clear BK726
                    clear HB
                    have BK725 := n0_
                    have BK726 := n1_
                    have HB := n2_
                    clear n0_ n1_ n2_
                    clear hb
                    (try clear HQ)
                    try go_wp2
                    go_ret
                    exact ⟨by first | rfl | (simp [errW_none, errW_some] <;> rfl) | (simp [*, errW_none, errW_some] <;> rfl), by repeat (first | (with_reducible first | exact HB.out | apply below_alloc | apply pw_below_drewN | apply below_drew1 | refine below_set ?_ GE725.out | refine below_set ?_ GE726.out) | exact HB.out)⟩
                · rw [if_neg c28] at H
                  exact absurd H (by simp)
              · rw [if_neg c27] at H
                exact absurd H (by simp)
            · rw [if_neg c26] at H
              have c26b0 : decide (x7_2 < a0_0) = false := decide_eq_false c26
              clear c26
              have H' := Aside0.mk H
              clear H
              have hnb37 := NB725_726.out
              have hnc37 := NB726_725.out
              have hcz38_0 : wr.cell? ⟨gb725, 0, none⟩ = some (.int .i64 a0_0) := (blk_cell BK725.out 0).trans rfl
              have hcz38_1 : wr.cell? ⟨gb725, 1, none⟩ = some (.slice A0_1 l0_1.length c0_1) := (blk_cell BK725.out 1).trans rfl
              have hcz38_2 : wr.cell? ⟨gb725, 2, none⟩ = some (.slice A0_2 l0_2.length c0_2) := (blk_cell BK725.out 2).trans rfl
              have hcz38_3 : wr.cell? ⟨gb725, 3, none⟩ = some (.slice A0_3 l0_3.length c0_3) := (blk_cell BK725.out 3).trans rfl
              have hfz38_0 := blk_frozen BK725.out 0
              have hfz38_1 := blk_frozen BK725.out 1
              have hfz38_2 := blk_frozen BK725.out 2
              have hfz38_3 := blk_frozen BK725.out 3
              go_wp2
              go_loopg [8] k2 (fun kq v8 w' => ∃ (x8_3 : Int), v8 = .int .i64 x8_3 ∧ Aside0 (spec_IsMap.l1 kq l2 x8_3 a0_0 l0_1 l0_2 l0_3 a1_0 l1_1 l1_2 l1_3 = some r) ∧ Aside0 (kq ≤ k2) ∧ Aside0 (w'.heap[gb725]? = some (.cells #[.int .i64 a0_0, (.slice A0_1 l0_1.length c0_1), (.slice A0_2 l0_2.length c0_2), (.slice A0_3 l0_3.length c0_3)] 28 (0, 0))) ∧ Aside0 (w'.heap[gb726]? = some (.cells #[.int .i64 a1_0, (.slice A1_1 l1_1.length c1_1), (.slice A1_2 l1_2.length c1_2), (.slice A1_3 l1_3.length c1_3)] 28 (0, 0))) ∧ Aside0 (Below w.heap.size w w'))
              case atStart => exact ⟨(0), (by first | rfl | (simp; done) | (simp [*]; done)), H', ⟨Nat.le_refl _⟩, ⟨by (with_reducible repeat (first | refine blk_drewN ?_ _ | refine blk_drew ?_ | refine blk_alloc ?_ _)); exact BK725.out⟩, ⟨by (with_reducible repeat (first | refine blk_drewN ?_ _ | refine blk_drew ?_ | refine blk_alloc ?_ _)); exact BK726.out⟩, ⟨by repeat (first | (with_reducible first | exact HB.out | apply below_alloc | apply pw_below_drewN | apply below_drew1 | refine below_set ?_ GE725.out | refine below_set ?_ GE726.out) | exact HB.out)⟩⟩
              case round =>
                clear H'
                try clear c1
                try clear c2
                try clear p2
                try clear c3
                try clear c4
                try clear c25
                try clear c26
                try clear c26b0
                try clear c37
                try clear hcz38_0
                try clear hcz38_1
                try clear hcz38_2
                try clear hcz38_3
                try clear hfz38_0
                try clear hfz38_1
                try clear hfz38_2
                try clear hfz38_3
                try clear p2
                obtain ⟨x8_3, rfl, HA, HK3, BK725, BK726, HB⟩ := hrel
                cases gk with
                | zero => exact absurd HA.out (by simp [spec_IsMap.l1])
                | succ k3 =>
                  have H := HA.out
                  clear HA
                  simp only [spec_IsMap.l1] at H
                  by_cases c39 : x8_3 < a0_0
                  · rw [if_pos c39] at H
                    have c39b0 : decide (x8_3 < a0_0) = true := decide_eq_true c39
                    clear c39
                    have H' := Aside0.mk H
                    clear H
                    have hnb40 := NB725_726.out
                    have hnc40 := NB726_725.out
                    have hcz41_0 : wr.cell? ⟨gb725, 0, none⟩ = some (.int .i64 a0_0) := (blk_cell BK725.out 0).trans rfl
                    have hcz41_1 : wr.cell? ⟨gb725, 1, none⟩ = some (.slice A0_1 l0_1.length c0_1) := (blk_cell BK725.out 1).trans rfl
                    have hcz41_2 : wr.cell? ⟨gb725, 2, none⟩ = some (.slice A0_2 l0_2.length c0_2) := (blk_cell BK725.out 2).trans rfl
                    have hcz41_3 : wr.cell? ⟨gb725, 3, none⟩ = some (.slice A0_3 l0_3.length c0_3) := (blk_cell BK725.out 3).trans rfl
                    have hfz41_0 := blk_frozen BK725.out 0
                    have hfz41_1 := blk_frozen BK725.out 1
                    have hfz41_2 := blk_frozen BK725.out 2
                    have hfz41_3 := blk_frozen BK725.out 3
                    go_wp2
                    go_loopg [9] k3 (fun kq v9 w' => ∃ (x9_4 : Int), v9 = .int .i64 x9_4 ∧ Aside0 (spec_IsMap.l2 kq l2 x8_3 x9_4 a0_0 l0_1 l0_2 l0_3 a1_0 l1_1 l1_2 l1_3 = some r) ∧ Aside0 (kq ≤ k3) ∧ Aside0 (w'.heap[gb725]? = some (.cells #[.int .i64 a0_0, (.slice A0_1 l0_1.length c0_1), (.slice A0_2 l0_2.length c0_2), (.slice A0_3 l0_3.length c0_3)] 28 (0, 0))) ∧ Aside0 (w'.heap[gb726]? = some (.cells #[.int .i64 a1_0, (.slice A1_1 l1_1.length c1_1), (.slice A1_2 l1_2.length c1_2), (.slice A1_3 l1_3.length c1_3)] 28 (0, 0))) ∧ Aside0 (Below w.heap.size w w'))
                    case atStart => exact ⟨(0), (by first | rfl | (simp; done) | (simp [*]; done)), H', ⟨Nat.le_refl _⟩, ⟨by (with_reducible repeat (first | refine blk_drewN ?_ _ | refine blk_drew ?_ | refine blk_alloc ?_ _)); exact BK725.out⟩, ⟨by (with_reducible repeat (first | refine blk_drewN ?_ _ | refine blk_drew ?_ | refine blk_alloc ?_ _)); exact BK726.out⟩, ⟨by repeat (first | (with_reducible first | exact HB.out | apply below_alloc | apply pw_below_drewN | apply below_drew1 | refine below_set ?_ GE725.out | refine below_set ?_ GE726.out) | exact HB.out)⟩⟩
                    case round =>
                      clear H'
                      try clear c1
                      try clear c2
                      try clear p2
                      try clear c3
                      try clear c4
                      try clear c25
                      try clear c26
                      try clear c26b0
                      try clear c37
                      try clear c39
                      try clear c39b0
                      try clear c40
                      try clear hcz38_0
                      try clear hcz38_1
                      try clear hcz38_2
                      try clear hcz38_3
                      try clear hcz41_0
                      try clear hcz41_1
                      try clear hcz41_2
                      try clear hcz41_3
                      try clear hfz38_0
                      try clear hfz38_1
                      try clear hfz38_2
                      try clear hfz38_3
                      try clear hfz41_0
                      try clear hfz41_1
                      try clear hfz41_2
                      try clear hfz41_3
                      try clear p2
                      obtain ⟨x9_4, rfl, HA, HK4, BK725, BK726, HB⟩ := hrel
                      cases gk with
                      | zero => exact absurd HA.out (by simp [spec_IsMap.l2])
                      | succ k4 =>
                        have H := HA.out
                        clear HA
                        simp only [spec_IsMap.l2] at H
                        by_cases c42 : x9_4 < a0_0
                        · rw [if_pos c42] at H
                          have c42b0 : decide (x9_4 < a0_0) = true := decide_eq_true c42
                          clear c42
                          replace H := Option.bind_eq_some_iff.mp H
                          obtain ⟨t733, A430, H⟩ := H
                          replace H : (if 0 ≤ t733 then (if t733 < (l2.length : Int) then (if 0 ≤ x8_3 then (if x8_3 < (l2.length : Int) then (if 0 ≤ x9_4 then (if x9_4 < (l2.length : Int) then ((spec_l1Add.f a1_0 l1_1 l1_2 l1_3 (rd l2 x8_3) (rd l2 x9_4)).bind fun t737 => (if (rd l2 t733) = t737 then ((spec_l1Mul.f a0_0 l0_1 l0_2 l0_3 x8_3 x9_4).bind fun t738 => (if 0 ≤ t738 then (if t738 < (l2.length : Int) then ((spec_l1Mul.f a1_0 l1_1 l1_2 l1_3 (rd l2 x8_3) (rd l2 x9_4)).bind fun t742 => (if (rd l2 t738) = t742 then ((spec_l1Le.f a0_0 l0_1 l0_2 l0_3 x8_3 x9_4).bind fun t743 => (if t743 = true then ((spec_l1Le.f a1_0 l1_1 l1_2 l1_3 (rd l2 x8_3) (rd l2 x9_4)).bind fun t746 => (if t746 = true then (spec_IsMap.l2 k4 l2 x8_3 (wrap64 (x9_4 + 1)) a0_0 l0_1 l0_2 l0_3 a1_0 l1_1 l1_2 l1_3) else (some false))) else (spec_IsMap.l2 k4 l2 x8_3 (wrap64 (x9_4 + 1)) a0_0 l0_1 l0_2 l0_3 a1_0 l1_1 l1_2 l1_3))) else (some false))) else (none)) else (none))) else (some false))) else (none)) else (none)) else (none)) else (none)) else (none)) else (none)) = some r := H
                          have A43 := Aside0.mk A430
                          clear A430
                          by_cases c44 : 0 ≤ t733
                          · rw [if_pos c44] at H
                            have c44b0 : decide (0 ≤ t733) = true := decide_eq_true c44
                            clear c44
                            by_cases c45 : t733 < (l2.length : Int)
                            · rw [if_pos c45] at H
                              have c45b0 : decide (t733 < (l2.length : Int)) = true := decide_eq_true c45
                              clear c45
                              by_cases c46 : 0 ≤ x8_3
                              · rw [if_pos c46] at H
                                have c46b0 : decide (0 ≤ x8_3) = true := decide_eq_true c46
                                clear c46
                                by_cases c47 : x8_3 < (l2.length : Int)
                                · rw [if_pos c47] at H
                                  have c47b0 : decide (x8_3 < (l2.length : Int)) = true := decide_eq_true c47
                                  clear c47
                                  by_cases c48 : 0 ≤ x9_4
                                  · rw [if_pos c48] at H
                                    have c48b0 : decide (0 ≤ x9_4) = true := decide_eq_true c48
                                    clear c48
                                    by_cases c49 : x9_4 < (l2.length : Int)
                                    · rw [if_pos c49] at H
                                      have c49b0 : decide (x9_4 < (l2.length : Int)) = true := decide_eq_true c49
                                      clear c49
                                      replace H := Option.bind_eq_some_iff.mp H
                                      obtain ⟨t737, A500, H⟩ := H
                                      replace H : (if (rd l2 t733) = t737 then ((spec_l1Mul.f a0_0 l0_1 l0_2 l0_3 x8_3 x9_4).bind fun t738 => (if 0 ≤ t738 then (if t738 < (l2.length : Int) then ((spec_l1Mul.f a1_0 l1_1 l1_2 l1_3 (rd l2 x8_3) (rd l2 x9_4)).bind fun t742 => (if (rd l2 t738) = t742 then ((spec_l1Le.f a0_0 l0_1 l0_2 l0_3 x8_3 x9_4).bind fun t743 => (if t743 = true then ((spec_l1Le.f a1_0 l1_1 l1_2 l1_3 (rd l2 x8_3) (rd l2 x9_4)).bind fun t746 => (if t746 = true then (spec_IsMap.l2 k4 l2 x8_3 (wrap64 (x9_4 + 1)) a0_0 l0_1 l0_2 l0_3 a1_0 l1_1 l1_2 l1_3) else (some false))) else (spec_IsMap.l2 k4 l2 x8_3 (wrap64 (x9_4 + 1)) a0_0 l0_1 l0_2 l0_3 a1_0 l1_1 l1_2 l1_3))) else (some false))) else (none)) else (none))) else (some false)) = some r := H
                                      have A50 := Aside0.mk A500
                                      clear A500
                                      by_cases c51 : (rd l2 t733) = t737
                                      · rw [if_pos c51] at H
                                        have c51b0 : ((rd l2 t733) == t737) = true := beq_iff_eq.mpr c51
                                        have c51b1 : ((rd l2 t733) != t737) = false := bne_eq_false_iff_eq.mpr c51
                                        clear c51
                                        replace H := Option.bind_eq_some_iff.mp H
                                        obtain ⟨t738, A520, H⟩ := H
                                        replace H : (if 0 ≤ t738 then (if t738 < (l2.length : Int) then ((spec_l1Mul.f a1_0 l1_1 l1_2 l1_3 (rd l2 x8_3) (rd l2 x9_4)).bind fun t742 => (if (rd l2 t738) = t742 then ((spec_l1Le.f a0_0 l0_1 l0_2 l0_3 x8_3 x9_4).bind fun t743 => (if t743 = true then ((spec_l1Le.f a1_0 l1_1 l1_2 l1_3 (rd l2 x8_3) (rd l2 x9_4)).bind fun t746 => (if t746 = true then (spec_IsMap.l2 k4 l2 x8_3 (wrap64 (x9_4 + 1)) a0_0 l0_1 l0_2 l0_3 a1_0 l1_1 l1_2 l1_3) else (some false))) else (spec_IsMap.l2 k4 l2 x8_3 (wrap64 (x9_4 + 1)) a0_0 l0_1 l0_2 l0_3 a1_0 l1_1 l1_2 l1_3))) else (some false))) else (none)) else (none)) = some r := H
                                        have A52 := Aside0.mk A520
                                        clear A520
                                        by_cases c53 : 0 ≤ t738
                                        · rw [if_pos c53] at H
                                          have c53b0 : decide (0 ≤ t738) = true := decide_eq_true c53
                                          clear c53
                                          by_cases c54 : t738 < (l2.length : Int)
                                          · rw [if_pos c54] at H
                                            have c54b0 : decide (t738 < (l2.length : Int)) = true := decide_eq_true c54
                                            clear c54
                                            replace H := Option.bind_eq_some_iff.mp H
                                            obtain ⟨t742, A550, H⟩ := H
                                            replace H : (if (rd l2 t738) = t742 then ((spec_l1Le.f a0_0 l0_1 l0_2 l0_3 x8_3 x9_4).bind fun t743 => (if t743 = true then ((spec_l1Le.f a1_0 l1_1 l1_2 l1_3 (rd l2 x8_3) (rd l2 x9_4)).bind fun t746 => (if t746 = true then (spec_IsMap.l2 k4 l2 x8_3 (wrap64 (x9_4 + 1)) a0_0 l0_1 l0_2 l0_3 a1_0 l1_1 l1_2 l1_3) else (some false))) else (spec_IsMap.l2 k4 l2 x8_3 (wrap64 (x9_4 + 1)) a0_0 l0_1 l0_2 l0_3 a1_0 l1_1 l1_2 l1_3))) else (some false)) = some r := H
                                            have A55 := Aside0.mk A550
                                            clear A550
                                            by_cases c56 : (rd l2 t738) = t742
                                            · rw [if_pos c56] at H
                                              have c56b0 : ((rd l2 t738) == t742) = true := beq_iff_eq.mpr c56
                                              have c56b1 : ((rd l2 t738) != t742) = false := bne_eq_false_iff_eq.mpr c56
                                              clear c56
                                              replace H := Option.bind_eq_some_iff.mp H
                                              obtain ⟨t743, A570, H⟩ := H
                                              replace H : (if t743 = true then ((spec_l1Le.f a1_0 l1_1 l1_2 l1_3 (rd l2 x8_3) (rd l2 x9_4)).bind fun t746 => (if t746 = true then (spec_IsMap.l2 k4 l2 x8_3 (wrap64 (x9_4 + 1)) a0_0 l0_1 l0_2 l0_3 a1_0 l1_1 l1_2 l1_3) else (some false))) else (spec_IsMap.l2 k4 l2 x8_3 (wrap64 (x9_4 + 1)) a0_0 l0_1 l0_2 l0_3 a1_0 l1_1 l1_2 l1_3)) = some r := H
                                              have A57 := Aside0.mk A570
                                              clear A570
                                              by_cases c58 : t743 = true
                                              · subst c58
                                                have H1 : ((spec_l1Le.f a1_0 l1_1 l1_2 l1_3 (rd l2 x8_3) (rd l2 x9_4)).bind fun t746 => (if t746 = true then (spec_IsMap.l2 k4 l2 x8_3 (wrap64 (x9_4 + 1)) a0_0 l0_1 l0_2 l0_3 a1_0 l1_1 l1_2 l1_3) else (some false))) = some r := by rw [if_pos rfl] at H; exact H
                                                clear H
                                                have H := H1
                                                clear H1
                                                replace H := Option.bind_eq_some_iff.mp H
                                                obtain ⟨t746, A590, H⟩ := H
                                                replace H : (if t746 = true then (spec_IsMap.l2 k4 l2 x8_3 (wrap64 (x9_4 + 1)) a0_0 l0_1 l0_2 l0_3 a1_0 l1_1 l1_2 l1_3) else (some false)) = some r := H
                                                have A59 := Aside0.mk A590
                                                clear A590
                                                by_cases c60 : t746 = true
                                                · subst c60
                                                  have H1 : (spec_IsMap.l2 k4 l2 x8_3 (wrap64 (x9_4 + 1)) a0_0 l0_1 l0_2 l0_3 a1_0 l1_1 l1_2 l1_3) = some r := by rw [if_pos rfl] at H; exact H
                                                  clear H
                                                  have H := H1
                                                  clear H1
                                                  have H' := Aside0.mk H
                                                  clear H
                                                  have hnb61 := NB725_726.out
                                                  have hnc61 := NB726_725.out
                                                  have hcz62_0 : wr.cell? ⟨gb725, 0, none⟩ = some (.int .i64 a0_0) := (blk_cell BK725.out 0).trans rfl
                                                  have hcz62_1 : wr.cell? ⟨gb725, 1, none⟩ = some (.slice A0_1 l0_1.length c0_1) := (blk_cell BK725.out 1).trans rfl
                                                  have hcz62_2 : wr.cell? ⟨gb725, 2, none⟩ = some (.slice A0_2 l0_2.length c0_2) := (blk_cell BK725.out 2).trans rfl
                                                  have hcz62_3 : wr.cell? ⟨gb725, 3, none⟩ = some (.slice A0_3 l0_3.length c0_3) := (blk_cell BK725.out 3).trans rfl
                                                  have hfz62_0 := blk_frozen BK725.out 0
                                                  have hfz62_1 := blk_frozen BK725.out 1
                                                  have hfz62_2 := blk_frozen BK725.out 2
                                                  have hfz62_3 := blk_frozen BK725.out 3
                                                  try go_wp2
                                                  have p734 : 0 ≤ (t733 : Int) := of_decide_eq_true (by first | (with_reducible assumption) | assumption)
                                                  have q734 : t733 < (l2.length : Int) := of_decide_eq_true (by first | (with_reducible assumption) | assumption)
                                                  obtain ⟨ad734, e734, hx734_0⟩ := Kd.at_int HR2.out t733 p734 q734
                                                  cases e734
                                                  replace hx734_0 := (HB.out.cell (World.block_lt_of_cell? w _ hx734_0)).trans hx734_0
                                                  replace p734 := eq_true p734
                                                  replace q734 := eq_true q734
                                                  have p735 : 0 ≤ (x8_3 : Int) := of_decide_eq_true (by first | (with_reducible assumption) | assumption)
                                                  have q735 : x8_3 < (l2.length : Int) := of_decide_eq_true (by first | (with_reducible assumption) | assumption)
                                                  obtain ⟨ad735, e735, hx735_0⟩ := Kd.at_int HR2.out x8_3 p735 q735
                                                  obtain rfl : ad734 = ad735 := (by injection e735)
                                                  replace hx735_0 := (HB.out.cell (World.block_lt_of_cell? w _ hx735_0)).trans hx735_0
                                                  replace p735 := eq_true p735
                                                  replace q735 := eq_true q735
                                                  have p736 : 0 ≤ (x9_4 : Int) := of_decide_eq_true (by first | (with_reducible assumption) | assumption)
                                                  have q736 : x9_4 < (l2.length : Int) := of_decide_eq_true (by first | (with_reducible assumption) | assumption)
                                                  obtain ⟨ad736, e736, hx736_0⟩ := Kd.at_int HR2.out x9_4 p736 q736
                                                  obtain rfl : ad734 = ad736 := (by injection e736)
                                                  replace hx736_0 := (HB.out.cell (World.block_lt_of_cell? w _ hx736_0)).trans hx736_0
                                                  replace p736 := eq_true p736
                                                  replace q736 := eq_true q736
                                                  have p739 : 0 ≤ (t738 : Int) := of_decide_eq_true (by first | (with_reducible assumption) | assumption)
                                                  have q739 : t738 < (l2.length : Int) := of_decide_eq_true (by first | (with_reducible assumption) | assumption)
                                                  obtain ⟨ad739, e739, hx739_0⟩ := Kd.at_int HR2.out t738 p739 q739
                                                  obtain rfl : ad734 = ad739 := (by injection e739)
                                                  replace hx739_0 := (HB.out.cell (World.block_lt_of_cell? w _ hx739_0)).trans hx739_0
                                                  replace p739 := eq_true p739
                                                  replace q739 := eq_true q739
                                                  have p740 : 0 ≤ (x8_3 : Int) := of_decide_eq_true (by first | (with_reducible assumption) | assumption)
                                                  have q740 : x8_3 < (l2.length : Int) := of_decide_eq_true (by first | (with_reducible assumption) | assumption)
                                                  obtain ⟨ad740, e740, hx740_0⟩ := Kd.at_int HR2.out x8_3 p740 q740
                                                  obtain rfl : ad734 = ad740 := (by injection e740)
                                                  replace hx740_0 := (HB.out.cell (World.block_lt_of_cell? w _ hx740_0)).trans hx740_0
                                                  replace p740 := eq_true p740
                                                  replace q740 := eq_true q740
                                                  have p741 : 0 ≤ (x9_4 : Int) := of_decide_eq_true (by first | (with_reducible assumption) | assumption)
                                                  have q741 : x9_4 < (l2.length : Int) := of_decide_eq_true (by first | (with_reducible assumption) | assumption)
                                                  obtain ⟨ad741, e741, hx741_0⟩ := Kd.at_int HR2.out x9_4 p741 q741
                                                  obtain rfl : ad734 = ad741 := (by injection e741)
                                                  replace hx741_0 := (HB.out.cell (World.block_lt_of_cell? w _ hx741_0)).trans hx741_0
                                                  replace p741 := eq_true p741
                                                  replace q741 := eq_true q741
                                                  have p744 : 0 ≤ (x8_3 : Int) := of_decide_eq_true (by first | (with_reducible assumption) | assumption)
                                                  have q744 : x8_3 < (l2.length : Int) := of_decide_eq_true (by first | (with_reducible assumption) | assumption)
                                                  obtain ⟨ad744, e744, hx744_0⟩ := Kd.at_int HR2.out x8_3 p744 q744
                                                  obtain rfl : ad734 = ad744 := (by injection e744)
                                                  replace hx744_0 := (HB.out.cell (World.block_lt_of_cell? w _ hx744_0)).trans hx744_0
                                                  replace p744 := eq_true p744
                                                  replace q744 := eq_true q744
                                                  have p745 : 0 ≤ (x9_4 : Int) := of_decide_eq_true (by first | (with_reducible assumption) | assumption)
                                                  have q745 : x9_4 < (l2.length : Int) := of_decide_eq_true (by first | (with_reducible assumption) | assumption)
                                                  obtain ⟨ad745, e745, hx745_0⟩ := Kd.at_int HR2.out x9_4 p745 q745
                                                  obtain rfl : ad734 = ad745 := (by injection e745)
                                                  replace hx745_0 := (HB.out.cell (World.block_lt_of_cell? w _ hx745_0)).trans hx745_0
                                                  replace p745 := eq_true p745
                                                  replace q745 := eq_true q745
                                                  refine qb_region (by kernel_rfl) (by kernel_rfl) ?_
                                                  have HQ := fun (wq : World) (hq : Below wr.heap.size wr wq) => below_step HB.out hq
                                                  repeat ((first | (apply qb_skip; (focus rfl)) | (refine qb_callN 56 rfl ?_; apply qb_call 56 rfl Try.func63 (by kernel_rfl) rfl rfl; (focus rfl); (focus (exact fun wq9 hb9 => qb_b hb9 (spec_l1Add.calls a0_0 _ _ l0_1 _ _ l0_2 _ _ l0_3 x8_3 x9_4 t733 _ (Kd.C_below HR0_1.out (HQ _ hb9)) HC0_1.out (Kd.C_below HR0_2.out (HQ _ hb9)) HC0_2.out (Kd.C_below HR0_3.out (HQ _ hb9)) HC0_3.out A43.out))); (focus (rfl))) | (refine qb_callN 68 rfl ?_; apply qb_call 68 rfl Try.func63 (by kernel_rfl) rfl rfl; (focus rfl); (focus (exact fun wq9 hb9 => qb_b hb9 (spec_l1Add.calls a1_0 _ _ l1_1 _ _ l1_2 _ _ l1_3 (rd l2 x8_3) (rd l2 x9_4) t737 _ (Kd.C_below HR1_1.out (HQ _ hb9)) HC1_1.out (Kd.C_below HR1_2.out (HQ _ hb9)) HC1_2.out (Kd.C_below HR1_3.out (HQ _ hb9)) HC1_3.out A50.out))); (focus (rfl))) | (refine qb_callN 75 rfl ?_; apply qb_call 75 rfl Try.func65 (by kernel_rfl) rfl rfl; (focus rfl); (focus (exact fun wq9 hb9 => qb_b hb9 (spec_l1Mul.calls a0_0 _ _ l0_1 _ _ l0_2 _ _ l0_3 x8_3 x9_4 t738 _ (Kd.C_below HR0_1.out (HQ _ hb9)) HC0_1.out (Kd.C_below HR0_2.out (HQ _ hb9)) HC0_2.out (Kd.C_below HR0_3.out (HQ _ hb9)) HC0_3.out A52.out))); (focus (rfl))) | (refine qb_callN 87 rfl ?_; apply qb_call 87 rfl Try.func65 (by kernel_rfl) rfl rfl; (focus rfl); (focus (exact fun wq9 hb9 => qb_b hb9 (spec_l1Mul.calls a1_0 _ _ l1_1 _ _ l1_2 _ _ l1_3 (rd l2 x8_3) (rd l2 x9_4) t742 _ (Kd.C_below HR1_1.out (HQ _ hb9)) HC1_1.out (Kd.C_below HR1_2.out (HQ _ hb9)) HC1_2.out (Kd.C_below HR1_3.out (HQ _ hb9)) HC1_3.out A55.out))); (focus (rfl))) | (refine qb_callN 94 rfl ?_; apply qb_call 94 rfl Try.func61 (by kernel_rfl) rfl rfl; (focus rfl); (focus (exact fun wq9 hb9 => qb_b hb9 (spec_l1Le.calls a0_0 _ _ l0_1 _ _ l0_2 _ _ l0_3 x8_3 x9_4 true _ (Kd.C_below HR0_1.out (HQ _ hb9)) HC0_1.out (Kd.C_below HR0_2.out (HQ _ hb9)) HC0_2.out (Kd.C_below HR0_3.out (HQ _ hb9)) HC0_3.out A57.out))); (focus (rfl))) | (refine qb_callN 105 rfl ?_; apply qb_call 105 rfl Try.func61 (by kernel_rfl) rfl rfl; (focus rfl); (focus (exact fun wq9 hb9 => qb_b hb9 (spec_l1Le.calls a1_0 _ _ l1_1 _ _ l1_2 _ _ l1_3 (rd l2 x8_3) (rd l2 x9_4) true _ (Kd.C_below HR1_1.out (HQ _ hb9)) HC1_1.out (Kd.C_below HR1_2.out (HQ _ hb9)) HC1_2.out (Kd.C_below HR1_3.out (HQ _ hb9)) HC1_3.out A59.out))); (focus (rfl))) | (apply qb_val; (focus rfl); (focus (intro wq9 _; go_simp; with_reducible rfl))) | (apply qb_val; (focus rfl); (focus (intro wq9 hb9_; have hb9 : Below wr.heap.size wr wq9 := hb9_; have BK725 := Aside0.mk (blk_below BK725.out hb9); have BK726 := Aside0.mk (blk_below BK726.out hb9); have hc9_725_0 : wq9.cell? ⟨gb725, 0, none⟩ = some (.int .i64 a0_0) := (blk_cell BK725.out 0).trans rfl; have hc9_725_1 : wq9.cell? ⟨gb725, 1, none⟩ = some (.slice A0_1 l0_1.length c0_1) := (blk_cell BK725.out 1).trans rfl; have hc9_725_2 : wq9.cell? ⟨gb725, 2, none⟩ = some (.slice A0_2 l0_2.length c0_2) := (blk_cell BK725.out 2).trans rfl; have hc9_725_3 : wq9.cell? ⟨gb725, 3, none⟩ = some (.slice A0_3 l0_3.length c0_3) := (blk_cell BK725.out 3).trans rfl; have hc9_726_0 : wq9.cell? ⟨gb726, 0, none⟩ = some (.int .i64 a1_0) := (blk_cell BK726.out 0).trans rfl; have hc9_726_1 : wq9.cell? ⟨gb726, 1, none⟩ = some (.slice A1_1 l1_1.length c1_1) := (blk_cell BK726.out 1).trans rfl; have hc9_726_2 : wq9.cell? ⟨gb726, 2, none⟩ = some (.slice A1_2 l1_2.length c1_2) := (blk_cell BK726.out 2).trans rfl; have hc9_726_3 : wq9.cell? ⟨gb726, 3, none⟩ = some (.slice A1_3 l1_3.length c1_3) := (blk_cell BK726.out 3).trans rfl; have hx734_0 := (hb9.cell (World.block_lt_of_cell? _ _ hx734_0)).trans hx734_0; have hx735_0 := (hb9.cell (World.block_lt_of_cell? _ _ hx735_0)).trans hx735_0; have hx736_0 := (hb9.cell (World.block_lt_of_cell? _ _ hx736_0)).trans hx736_0; have hx739_0 := (hb9.cell (World.block_lt_of_cell? _ _ hx739_0)).trans hx739_0; have hx740_0 := (hb9.cell (World.block_lt_of_cell? _ _ hx740_0)).trans hx740_0; have hx741_0 := (hb9.cell (World.block_lt_of_cell? _ _ hx741_0)).trans hx741_0; have hx744_0 := (hb9.cell (World.block_lt_of_cell? _ _ hx744_0)).trans hx744_0; have hx745_0 := (hb9.cell (World.block_lt_of_cell? _ _ hx745_0)).trans hx745_0; go_simp; with_reducible rfl)))); (focus (simp only [Act.put, List.setIfInBounds_toArray, List.set_cons_zero, List.set_cons_succ, i64_w, i32_w]; rfl)))
                                                  refine qb_nil ?_
                                                  intro w69 hb
                                                  have n0_ := Aside0.mk (blk_below BK725.out hb)
                                                  have n1_ := Aside0.mk (blk_below BK726.out hb)
                                                  have n2_ := Aside0.mk (below_step HB.out hb)
                                                  clear BK725
                                                  clear BK726
                                                  clear HB
                                                  have BK725 := n0_
                                                  have BK726 := n1_
                                                  have HB := n2_
                                                  clear n0_ n1_ n2_
                                                  clear hb
                                                  (try clear HQ)
                                                  try go_wp2
                                                  go_roundg k4
                                                  case measure => have := HJ3.out; have := HK2.out; have := HK3.out; have := HK4.out; omega
                                                  case rel => exact ⟨(wrap64 (x9_4 + 1)), (by first | rfl | (simp; done) | (simp [*]; done)), H', ⟨by have := HJ3.out; have := HK2.out; have := HK3.out; have := HK4.out; omega⟩, ⟨by (with_reducible repeat (first | refine blk_drewN ?_ _ | refine blk_drew ?_ | refine blk_alloc ?_ _)); exact BK725.out⟩, ⟨by (with_reducible repeat (first | refine blk_drewN ?_ _ | refine blk_drew ?_ | refine blk_alloc ?_ _)); exact BK726.out⟩, ⟨by repeat (first | (with_reducible first | exact HB.out | apply below_alloc | apply pw_below_drewN | apply below_drew1 | refine below_set ?_ GE725.out | refine below_set ?_ GE726.out) | exact HB.out)⟩⟩
                                                · replace c60 := Bool.eq_false_iff.mpr c60
                                                  subst c60
                                                  have H1 : (some false) = some r := by rw [if_neg (show ¬ (false = true) by decide)] at H; exact H
                                                  clear H
                                                  have H := H1
                                                  clear H1
                                                  obtain rfl := Option.some.inj H
                                                  have hnb70 := NB725_726.out
                                                  have hnc70 := NB726_725.out
                                                  have hcz71_0 : wr.cell? ⟨gb725, 0, none⟩ = some (.int .i64 a0_0) := (blk_cell BK725.out 0).trans rfl
                                                  have hcz71_1 : wr.cell? ⟨gb725, 1, none⟩ = some (.slice A0_1 l0_1.length c0_1) := (blk_cell BK725.out 1).trans rfl
                                                  have hcz71_2 : wr.cell? ⟨gb725, 2, none⟩ = some (.slice A0_2 l0_2.length c0_2) := (blk_cell BK725.out 2).trans rfl
                                                  have hcz71_3 : wr.cell? ⟨gb725, 3, none⟩ = some (.slice A0_3 l0_3.length c0_3) := (blk_cell BK725.out 3).trans rfl
                                                  have hfz71_0 := blk_frozen BK725.out 0
                                                  have hfz71_1 := blk_frozen BK725.out 1
                                                  have hfz71_2 := blk_frozen BK725.out 2
                                                  have hfz71_3 := blk_frozen BK725.out 3
                                                  try go_wp2
                                                  have p734 : 0 ≤ (t733 : Int) := of_decide_eq_true (by first | (with_reducible assumption) | assumption)
                                                  have q734 : t733 < (l2.length : Int) := of_decide_eq_true (by first | (with_reducible assumption) | assumption)
                                                  obtain ⟨ad734, e734, hx734_0⟩ := Kd.at_int HR2.out t733 p734 q734
                                                  cases e734
                                                  replace hx734_0 := (HB.out.cell (World.block_lt_of_cell? w _ hx734_0)).trans hx734_0
                                                  replace p734 := eq_true p734
                                                  replace q734 := eq_true q734
                                                  have p735 : 0 ≤ (x8_3 : Int) := of_decide_eq_true (by first | (with_reducible assumption) | assumption)
                                                  have q735 : x8_3 < (l2.length : Int) := of_decide_eq_true (by first | (with_reducible assumption) | assumption)
                                                  obtain ⟨ad735, e735, hx735_0⟩ := Kd.at_int HR2.out x8_3 p735 q735
                                                  obtain rfl : ad734 = ad735 := (by injection e735)
                                                  replace hx735_0 := (HB.out.cell (World.block_lt_of_cell? w _ hx735_0)).trans hx735_0
                                                  replace p735 := eq_true p735
                                                  replace q735 := eq_true q735
                                                  have p736 : 0 ≤ (x9_4 : Int) := of_decide_eq_true (by first | (with_reducible assumption) | assumption)
                                                  have q736 : x9_4 < (l2.length : Int) := of_decide_eq_true (by first | (with_reducible assumption) | assumption)
                                                  obtain ⟨ad736, e736, hx736_0⟩ := Kd.at_int HR2.out x9_4 p736 q736
                                                  obtain rfl : ad734 = ad736 := (by injection e736)
                                                  replace hx736_0 := (HB.out.cell (World.block_lt_of_cell? w _ hx736_0)).trans hx736_0
                                                  replace p736 := eq_true p736
                                                  replace q736 := eq_true q736
                                                  have p739 : 0 ≤ (t738 : Int) := of_decide_eq_true (by first | (with_reducible assumption) | assumption)
                                                  have q739 : t738 < (l2.length : Int) := of_decide_eq_true (by first | (with_reducible assumption) | assumption)
                                                  obtain ⟨ad739, e739, hx739_0⟩ := Kd.at_int HR2.out t738 p739 q739
                                                  obtain rfl : ad734 = ad739 := (by injection e739)
                                                  replace hx739_0 := (HB.out.cell (World.block_lt_of_cell? w _ hx739_0)).trans hx739_0
                                                  replace p739 := eq_true p739
                                                  replace q739 := eq_true q739
                                                  have p740 : 0 ≤ (x8_3 : Int) := of_decide_eq_true (by first | (with_reducible assumption) | assumption)
                                                  have q740 : x8_3 < (l2.length : Int) := of_decide_eq_true (by first | (with_reducible assumption) | assumption)
                                                  obtain ⟨ad740, e740, hx740_0⟩ := Kd.at_int HR2.out x8_3 p740 q740
                                                  obtain rfl : ad734 = ad740 := (by injection e740)
                                                  replace hx740_0 := (HB.out.cell (World.block_lt_of_cell? w _ hx740_0)).trans hx740_0
                                                  replace p740 := eq_true p740
                                                  replace q740 := eq_true q740
                                                  have p741 : 0 ≤ (x9_4 : Int) := of_decide_eq_true (by first | (with_reducible assumption) | assumption)
                                                  have q741 : x9_4 < (l2.length : Int) := of_decide_eq_true (by first | (with_reducible assumption) | assumption)
                                                  obtain ⟨ad741, e741, hx741_0⟩ := Kd.at_int HR2.out x9_4 p741 q741
                                                  obtain rfl : ad734 = ad741 := (by injection e741)
                                                  replace hx741_0 := (HB.out.cell (World.block_lt_of_cell? w _ hx741_0)).trans hx741_0
                                                  replace p741 := eq_true p741
                                                  replace q741 := eq_true q741
                                                  have p744 : 0 ≤ (x8_3 : Int) := of_decide_eq_true (by first | (with_reducible assumption) | assumption)
                                                  have q744 : x8_3 < (l2.length : Int) := of_decide_eq_true (by first | (with_reducible assumption) | assumption)
                                                  obtain ⟨ad744, e744, hx744_0⟩ := Kd.at_int HR2.out x8_3 p744 q744
                                                  obtain rfl : ad734 = ad744 := (by injection e744)
                                                  replace hx744_0 := (HB.out.cell (World.block_lt_of_cell? w _ hx744_0)).trans hx744_0
                                                  replace p744 := eq_true p744
                                                  replace q744 := eq_true q744
                                                  have p745 : 0 ≤ (x9_4 : Int) := of_decide_eq_true (by first | (with_reducible assumption) | assumption)
                                                  have q745 : x9_4 < (l2.length : Int) := of_decide_eq_true (by first | (with_reducible assumption) | assumption)
                                                  obtain ⟨ad745, e745, hx745_0⟩ := Kd.at_int HR2.out x9_4 p745 q745
                                                  obtain rfl : ad734 = ad745 := (by injection e745)
                                                  replace hx745_0 := (HB.out.cell (World.block_lt_of_cell? w _ hx745_0)).trans hx745_0
                                                  replace p745 := eq_true p745
                                                  replace q745 := eq_true q745
                                                  refine qb_region (by kernel_rfl) (by kernel_rfl) ?_
                                                  have HQ := fun (wq : World) (hq : Below wr.heap.size wr wq) => below_step HB.out hq
                                                  repeat ((first | (apply qb_skip; (focus rfl)) | (refine qb_callN 56 rfl ?_; apply qb_call 56 rfl Try.func63 (by kernel_rfl) rfl rfl; (focus rfl); (focus (exact fun wq9 hb9 => qb_b hb9 (spec_l1Add.calls a0_0 _ _ l0_1 _ _ l0_2 _ _ l0_3 x8_3 x9_4 t733 _ (Kd.C_below HR0_1.out (HQ _ hb9)) HC0_1.out (Kd.C_below HR0_2.out (HQ _ hb9)) HC0_2.out (Kd.C_below HR0_3.out (HQ _ hb9)) HC0_3.out A43.out))); (focus (rfl))) | (refine qb_callN 68 rfl ?_; apply qb_call 68 rfl Try.func63 (by kernel_rfl) rfl rfl; (focus rfl); (focus (exact fun wq9 hb9 => qb_b hb9 (spec_l1Add.calls a1_0 _ _ l1_1 _ _ l1_2 _ _ l1_3 (rd l2 x8_3) (rd l2 x9_4) t737 _ (Kd.C_below HR1_1.out (HQ _ hb9)) HC1_1.out (Kd.C_below HR1_2.out (HQ _ hb9)) HC1_2.out (Kd.C_below HR1_3.out (HQ _ hb9)) HC1_3.out A50.out))); (focus (rfl))) | (refine qb_callN 75 rfl ?_; apply qb_call 75 rfl Try.func65 (by kernel_rfl) rfl rfl; (focus rfl); (focus (exact fun wq9 hb9 => qb_b hb9 (spec_l1Mul.calls a0_0 _ _ l0_1 _ _ l0_2 _ _ l0_3 x8_3 x9_4 t738 _ (Kd.C_below HR0_1.out (HQ _ hb9)) HC0_1.out (Kd.C_below HR0_2.out (HQ _ hb9)) HC0_2.out (Kd.C_below HR0_3.out (HQ _ hb9)) HC0_3.out A52.out))); (focus (rfl))) | (refine qb_callN 87 rfl ?_; apply qb_call 87 rfl Try.func65 (by kernel_rfl) rfl rfl; (focus rfl); (focus (exact fun wq9 hb9 => qb_b hb9 (spec_l1Mul.calls a1_0 _ _ l1_1 _ _ l1_2 _ _ l1_3 (rd l2 x8_3) (rd l2 x9_4) t742 _ (Kd.C_below HR1_1.out (HQ _ hb9)) HC1_1.out (Kd.C_below HR1_2.out (HQ _ hb9)) HC1_2.out (Kd.C_below HR1_3.out (HQ _ hb9)) HC1_3.out A55.out))); (focus (rfl))) | (refine qb_callN 94 rfl ?_; apply qb_call 94 rfl Try.func61 (by kernel_rfl) rfl rfl; (focus rfl); (focus (exact fun wq9 hb9 => qb_b hb9 (spec_l1Le.calls a0_0 _ _ l0_1 _ _ l0_2 _ _ l0_3 x8_3 x9_4 true _ (Kd.C_below HR0_1.out (HQ _ hb9)) HC0_1.out (Kd.C_below HR0_2.out (HQ _ hb9)) HC0_2.out (Kd.C_below HR0_3.out (HQ _ hb9)) HC0_3.out A57.out))); (focus (rfl))) | (refine qb_callN 105 rfl ?_; apply qb_call 105 rfl Try.func61 (by kernel_rfl) rfl rfl; (focus rfl); (focus (exact fun wq9 hb9 => qb_b hb9 (spec_l1Le.calls a1_0 _ _ l1_1 _ _ l1_2 _ _ l1_3 (rd l2 x8_3) (rd l2 x9_4) false _ (Kd.C_below HR1_1.out (HQ _ hb9)) HC1_1.out (Kd.C_below HR1_2.out (HQ _ hb9)) HC1_2.out (Kd.C_below HR1_3.out (HQ _ hb9)) HC1_3.out A59.out))); (focus (rfl))) | (apply qb_val; (focus rfl); (focus (intro wq9 _; go_simp; with_reducible rfl))) | (apply qb_val; (focus rfl); (focus (intro wq9 hb9_; have hb9 : Below wr.heap.size wr wq9 := hb9_; have BK725 := Aside0.mk (blk_below BK725.out hb9); have BK726 := Aside0.mk (blk_below BK726.out hb9); have hc9_725_0 : wq9.cell? ⟨gb725, 0, none⟩ = some (.int .i64 a0_0) := (blk_cell BK725.out 0).trans rfl; have hc9_725_1 : wq9.cell? ⟨gb725, 1, none⟩ = some (.slice A0_1 l0_1.length c0_1) := (blk_cell BK725.out 1).trans rfl; have hc9_725_2 : wq9.cell? ⟨gb725, 2, none⟩ = some (.slice A0_2 l0_2.length c0_2) := (blk_cell BK725.out 2).trans rfl; have hc9_725_3 : wq9.cell? ⟨gb725, 3, none⟩ = some (.slice A0_3 l0_3.length c0_3) := (blk_cell BK725.out 3).trans rfl; have hc9_726_0 : wq9.cell? ⟨gb726, 0, none⟩ = some (.int .i64 a1_0) := (blk_cell BK726.out 0).trans rfl; have hc9_726_1 : wq9.cell? ⟨gb726, 1, none⟩ = some (.slice A1_1 l1_1.length c1_1) := (blk_cell BK726.out 1).trans rfl; have hc9_726_2 : wq9.cell? ⟨gb726, 2, none⟩ = some (.slice A1_2 l1_2.length c1_2) := (blk_cell BK726.out 2).trans rfl; have hc9_726_3 : wq9.cell? ⟨gb726, 3, none⟩ = some (.slice A1_3 l1_3.length c1_3) := (blk_cell BK726.out 3).trans rfl; have hx734_0 := (hb9.cell (World.block_lt_of_cell? _ _ hx734_0)).trans hx734_0; have hx735_0 := (hb9.cell (World.block_lt_of_cell? _ _ hx735_0)).trans hx735_0; have hx736_0 := (hb9.cell (World.block_lt_of_cell? _ _ hx736_0)).trans hx736_0; have hx739_0 := (hb9.cell (World.block_lt_of_cell? _ _ hx739_0)).trans hx739_0; have hx740_0 := (hb9.cell (World.block_lt_of_cell? _ _ hx740_0)).trans hx740_0; have hx741_0 := (hb9.cell (World.block_lt_of_cell? _ _ hx741_0)).trans hx741_0; have hx744_0 := (hb9.cell (World.block_lt_of_cell? _ _ hx744_0)).trans hx744_0; have hx745_0 := (hb9.cell (World.block_lt_of_cell? _ _ hx745_0)).trans hx745_0; go_simp; with_reducible rfl)))); (focus (simp only [Act.put, List.setIfInBounds_toArray, List.set_cons_zero, List.set_cons_succ, i64_w, i32_w]; rfl)))
                                                  refine qb_nil ?_
                                                  intro w78 hb
                                                  have n0_ := Aside0.mk (blk_below BK725.out hb)
                                                  have n1_ := Aside0.mk (blk_below BK726.out hb)
                                                  have n2_ := Aside0.mk (below_step HB.out hb)
                                                  clear BK725
                                                  clear BK726
                                                  clear HB
                                                  have BK725 := n0_
                                                  have BK726 := n1_
                                                  have HB := n2_
                                                  clear n0_ n1_ n2_
                                                  clear hb
                                                  (try clear HQ)
                                                  try go_wp2
                                                  go_ret
                                                  exact ⟨by first | rfl | (simp [errW_none, errW_some] <;> rfl) | (simp [*, errW_none, errW_some] <;> rfl), by repeat (first | (with_reducible first | exact HB.out | apply below_alloc | apply pw_below_drewN | apply below_drew1 | refine below_set ?_ GE725.out | refine below_set ?_ GE726.out) | exact HB.out)⟩
                                              · replace c58 := Bool.eq_false_iff.mpr c58
                                                subst c58
                                                have H1 : (spec_IsMap.l2 k4 l2 x8_3 (wrap64 (x9_4 + 1)) a0_0 l0_1 l0_2 l0_3 a1_0 l1_1 l1_2 l1_3) = some r := by rw [if_neg (show ¬ (false = true) by decide)] at H; exact H
                                                clear H
                                                have H := H1
                                                clear H1
                                                have H' := Aside0.mk H
                                                clear H
                                                have hnb79 := NB725_726.out
                                                have hnc79 := NB726_725.out
                                                have hcz80_0 : wr.cell? ⟨gb725, 0, none⟩ = some (.int .i64 a0_0) := (blk_cell BK725.out 0).trans rfl
                                                have hcz80_1 : wr.cell? ⟨gb725, 1, none⟩ = some (.slice A0_1 l0_1.length c0_1) := (blk_cell BK725.out 1).trans rfl
                                                have hcz80_2 : wr.cell? ⟨gb725, 2, none⟩ = some (.slice A0_2 l0_2.length c0_2) := (blk_cell BK725.out 2).trans rfl
                                                have hcz80_3 : wr.cell? ⟨gb725, 3, none⟩ = some (.slice A0_3 l0_3.length c0_3) := (blk_cell BK725.out 3).trans rfl
                                                have hfz80_0 := blk_frozen BK725.out 0
                                                have hfz80_1 := blk_frozen BK725.out 1
                                                have hfz80_2 := blk_frozen BK725.out 2
                                                have hfz80_3 := blk_frozen BK725.out 3
                                                try go_wp2
                                                have p734 : 0 ≤ (t733 : Int) := of_decide_eq_true (by first | (with_reducible assumption) | assumption)
                                                have q734 : t733 < (l2.length : Int) := of_decide_eq_true (by first | (with_reducible assumption) | assumption)
                                                obtain ⟨ad734, e734, hx734_0⟩ := Kd.at_int HR2.out t733 p734 q734
                                                cases e734
                                                replace hx734_0 := (HB.out.cell (World.block_lt_of_cell? w _ hx734_0)).trans hx734_0
                                                replace p734 := eq_true p734
                                                replace q734 := eq_true q734
                                                have p735 : 0 ≤ (x8_3 : Int) := of_decide_eq_true (by first | (with_reducible assumption) | assumption)
                                                have q735 : x8_3 < (l2.length : Int) := of_decide_eq_true (by first | (with_reducible assumption) | assumption)
                                                obtain ⟨ad735, e735, hx735_0⟩ := Kd.at_int HR2.out x8_3 p735 q735
                                                obtain rfl : ad734 = ad735 := (by injection e735)
                                                replace hx735_0 := (HB.out.cell (World.block_lt_of_cell? w _ hx735_0)).trans hx735_0
                                                replace p735 := eq_true p735
                                                replace q735 := eq_true q735
                                                have p736 : 0 ≤ (x9_4 : Int) := of_decide_eq_true (by first | (with_reducible assumption) | assumption)
                                                have q736 : x9_4 < (l2.length : Int) := of_decide_eq_true (by first | (with_reducible assumption) | assumption)
                                                obtain ⟨ad736, e736, hx736_0⟩ := Kd.at_int HR2.out x9_4 p736 q736
                                                obtain rfl : ad734 = ad736 := (by injection e736)
                                                replace hx736_0 := (HB.out.cell (World.block_lt_of_cell? w _ hx736_0)).trans hx736_0
                                                replace p736 := eq_true p736
                                                replace q736 := eq_true q736
                                                have p739 : 0 ≤ (t738 : Int) := of_decide_eq_true (by first | (with_reducible assumption) | assumption)
                                                have q739 : t738 < (l2.length : Int) := of_decide_eq_true (by first | (with_reducible assumption) | assumption)
                                                obtain ⟨ad739, e739, hx739_0⟩ := Kd.at_int HR2.out t738 p739 q739
                                                obtain rfl : ad734 = ad739 := (by injection e739)
                                                replace hx739_0 := (HB.out.cell (World.block_lt_of_cell? w _ hx739_0)).trans hx739_0
                                                replace p739 := eq_true p739
                                                replace q739 := eq_true q739
                                                have p740 : 0 ≤ (x8_3 : Int) := of_decide_eq_true (by first | (with_reducible assumption) | assumption)
                                                have q740 : x8_3 < (l2.length : Int) := of_decide_eq_true (by first | (with_reducible assumption) | assumption)
                                                obtain ⟨ad740, e740, hx740_0⟩ := Kd.at_int HR2.out x8_3 p740 q740
                                                obtain rfl : ad734 = ad740 := (by injection e740)
                                                replace hx740_0 := (HB.out.cell (World.block_lt_of_cell? w _ hx740_0)).trans hx740_0
                                                replace p740 := eq_true p740
                                                replace q740 := eq_true q740
                                                have p741 : 0 ≤ (x9_4 : Int) := of_decide_eq_true (by first | (with_reducible assumption) | assumption)
                                                have q741 : x9_4 < (l2.length : Int) := of_decide_eq_true (by first | (with_reducible assumption) | assumption)
                                                obtain ⟨ad741, e741, hx741_0⟩ := Kd.at_int HR2.out x9_4 p741 q741
                                                obtain rfl : ad734 = ad741 := (by injection e741)
                                                replace hx741_0 := (HB.out.cell (World.block_lt_of_cell? w _ hx741_0)).trans hx741_0
                                                replace p741 := eq_true p741
                                                replace q741 := eq_true q741
                                                refine qb_region (by kernel_rfl) (by kernel_rfl) ?_
                                                have HQ := fun (wq : World) (hq : Below wr.heap.size wr wq) => below_step HB.out hq
                                                repeat ((first | (apply qb_skip; (focus rfl)) | (refine qb_callN 56 rfl ?_; apply qb_call 56 rfl Try.func63 (by kernel_rfl) rfl rfl; (focus rfl); (focus (exact fun wq9 hb9 => qb_b hb9 (spec_l1Add.calls a0_0 _ _ l0_1 _ _ l0_2 _ _ l0_3 x8_3 x9_4 t733 _ (Kd.C_below HR0_1.out (HQ _ hb9)) HC0_1.out (Kd.C_below HR0_2.out (HQ _ hb9)) HC0_2.out (Kd.C_below HR0_3.out (HQ _ hb9)) HC0_3.out A43.out))); (focus (rfl))) | (refine qb_callN 68 rfl ?_; apply qb_call 68 rfl Try.func63 (by kernel_rfl) rfl rfl; (focus rfl); (focus (exact fun wq9 hb9 => qb_b hb9 (spec_l1Add.calls a1_0 _ _ l1_1 _ _ l1_2 _ _ l1_3 (rd l2 x8_3) (rd l2 x9_4) t737 _ (Kd.C_below HR1_1.out (HQ _ hb9)) HC1_1.out (Kd.C_below HR1_2.out (HQ _ hb9)) HC1_2.out (Kd.C_below HR1_3.out (HQ _ hb9)) HC1_3.out A50.out))); (focus (rfl))) | (refine qb_callN 75 rfl ?_; apply qb_call 75 rfl Try.func65 (by kernel_rfl) rfl rfl; (focus rfl); (focus (exact fun wq9 hb9 => qb_b hb9 (spec_l1Mul.calls a0_0 _ _ l0_1 _ _ l0_2 _ _ l0_3 x8_3 x9_4 t738 _ (Kd.C_below HR0_1.out (HQ _ hb9)) HC0_1.out (Kd.C_below HR0_2.out (HQ _ hb9)) HC0_2.out (Kd.C_below HR0_3.out (HQ _ hb9)) HC0_3.out A52.out))); (focus (rfl))) | (refine qb_callN 87 rfl ?_; apply qb_call 87 rfl Try.func65 (by kernel_rfl) rfl rfl; (focus rfl); (focus (exact fun wq9 hb9 => qb_b hb9 (spec_l1Mul.calls a1_0 _ _ l1_1 _ _ l1_2 _ _ l1_3 (rd l2 x8_3) (rd l2 x9_4) t742 _ (Kd.C_below HR1_1.out (HQ _ hb9)) HC1_1.out (Kd.C_below HR1_2.out (HQ _ hb9)) HC1_2.out (Kd.C_below HR1_3.out (HQ _ hb9)) HC1_3.out A55.out))); (focus (rfl))) | (refine qb_callN 94 rfl ?_; apply qb_call 94 rfl Try.func61 (by kernel_rfl) rfl rfl; (focus rfl); (focus (exact fun wq9 hb9 => qb_b hb9 (spec_l1Le.calls a0_0 _ _ l0_1 _ _ l0_2 _ _ l0_3 x8_3 x9_4 false _ (Kd.C_below HR0_1.out (HQ _ hb9)) HC0_1.out (Kd.C_below HR0_2.out (HQ _ hb9)) HC0_2.out (Kd.C_below HR0_3.out (HQ _ hb9)) HC0_3.out A57.out))); (focus (rfl))) | (apply qb_val; (focus rfl); (focus (intro wq9 _; go_simp; with_reducible rfl))) | (apply qb_val; (focus rfl); (focus (intro wq9 hb9_; have hb9 : Below wr.heap.size wr wq9 := hb9_; have BK725 := Aside0.mk (blk_below BK725.out hb9); have BK726 := Aside0.mk (blk_below BK726.out hb9); have hc9_725_0 : wq9.cell? ⟨gb725, 0, none⟩ = some (.int .i64 a0_0) := (blk_cell BK725.out 0).trans rfl; have hc9_725_1 : wq9.cell? ⟨gb725, 1, none⟩ = some (.slice A0_1 l0_1.length c0_1) := (blk_cell BK725.out 1).trans rfl; have hc9_725_2 : wq9.cell? ⟨gb725, 2, none⟩ = some (.slice A0_2 l0_2.length c0_2) := (blk_cell BK725.out 2).trans rfl; have hc9_725_3 : wq9.cell? ⟨gb725, 3, none⟩ = some (.slice A0_3 l0_3.length c0_3) := (blk_cell BK725.out 3).trans rfl; have hc9_726_0 : wq9.cell? ⟨gb726, 0, none⟩ = some (.int .i64 a1_0) := (blk_cell BK726.out 0).trans rfl; have hc9_726_1 : wq9.cell? ⟨gb726, 1, none⟩ = some (.slice A1_1 l1_1.length c1_1) := (blk_cell BK726.out 1).trans rfl; have hc9_726_2 : wq9.cell? ⟨gb726, 2, none⟩ = some (.slice A1_2 l1_2.length c1_2) := (blk_cell BK726.out 2).trans rfl; have hc9_726_3 : wq9.cell? ⟨gb726, 3, none⟩ = some (.slice A1_3 l1_3.length c1_3) := (blk_cell BK726.out 3).trans rfl; have hx734_0 := (hb9.cell (World.block_lt_of_cell? _ _ hx734_0)).trans hx734_0; have hx735_0 := (hb9.cell (World.block_lt_of_cell? _ _ hx735_0)).trans hx735_0; have hx736_0 := (hb9.cell (World.block_lt_of_cell? _ _ hx736_0)).trans hx736_0; have hx739_0 := (hb9.cell (World.block_lt_of_cell? _ _ hx739_0)).trans hx739_0; have hx740_0 := (hb9.cell (World.block_lt_of_cell? _ _ hx740_0)).trans hx740_0; have hx741_0 := (hb9.cell (World.block_lt_of_cell? _ _ hx741_0)).trans hx741_0; go_simp; with_reducible rfl)))); (focus (simp only [Act.put, List.setIfInBounds_toArray, List.set_cons_zero, List.set_cons_succ, i64_w, i32_w]; rfl)))
                                                refine qb_nil ?_
                                                intro w86 hb
                                                have n0_ := Aside0.mk (blk_below BK725.out hb)
                                                have n1_ := Aside0.mk (blk_below BK726.out hb)
                                                have n2_ := Aside0.mk (below_step HB.out hb)
                                                clear BK725
                                                clear BK726
                                                clear HB
                                                have BK725 := n0_
                                                have BK726 := n1_
                                                have HB := n2_
                                                clear n0_ n1_ n2_
                                                clear hb
                                                (try clear HQ)
                                                try go_wp2
                                                go_roundg k4
                                                case measure => have := HJ3.out; have := HK2.out; have := HK3.out; have := HK4.out; omega
                                                case rel => exact ⟨(wrap64 (x9_4 + 1)), (by first | rfl | (simp; done) | (simp [*]; done)), H', ⟨by have := HJ3.out; have := HK2.out; have := HK3.out; have := HK4.out; omega⟩, ⟨by (with_reducible repeat (first | refine blk_drewN ?_ _ | refine blk_drew ?_ | refine blk_alloc ?_ _)); exact BK725.out⟩, ⟨by (with_reducible repeat (first | refine blk_drewN ?_ _ | refine blk_drew ?_ | refine blk_alloc ?_ _)); exact BK726.out⟩, ⟨by repeat (first | (with_reducible first | exact HB.out | apply below_alloc | apply pw_below_drewN | apply below_drew1 | refine below_set ?_ GE725.out | refine below_set ?_ GE726.out) | exact HB.out)⟩⟩
                                            · rw [if_neg c56] at H
                                              have c56b0 : ((rd l2 t738) == t742) = false := beq_eq_false_iff_ne.mpr c56
                                              have c56b1 : ((rd l2 t738) != t742) = true := bne_iff_ne.mpr c56
                                              obtain rfl := Option.some.inj H
                                              have hnb87 := NB725_726.out
                                              have hnc87 := NB726_725.out
                                              have hcz88_0 : wr.cell? ⟨gb725, 0, none⟩ = some (.int .i64 a0_0) := (blk_cell BK725.out 0).trans rfl
                                              have hcz88_1 : wr.cell? ⟨gb725, 1, none⟩ = some (.slice A0_1 l0_1.length c0_1) := (blk_cell BK725.out 1).trans rfl
                                              have hcz88_2 : wr.cell? ⟨gb725, 2, none⟩ = some (.slice A0_2 l0_2.length c0_2) := (blk_cell BK725.out 2).trans rfl
                                              have hcz88_3 : wr.cell? ⟨gb725, 3, none⟩ = some (.slice A0_3 l0_3.length c0_3) := (blk_cell BK725.out 3).trans rfl
                                              have hfz88_0 := blk_frozen BK725.out 0
                                              have hfz88_1 := blk_frozen BK725.out 1
                                              have hfz88_2 := blk_frozen BK725.out 2
                                              have hfz88_3 := blk_frozen BK725.out 3
                                              try go_wp2
                                              have p734 : 0 ≤ (t733 : Int) := of_decide_eq_true (by first | (with_reducible assumption) | assumption)
                                              have q734 : t733 < (l2.length : Int) := of_decide_eq_true (by first | (with_reducible assumption) | assumption)
                                              obtain ⟨ad734, e734, hx734_0⟩ := Kd.at_int HR2.out t733 p734 q734
                                              cases e734
                                              replace hx734_0 := (HB.out.cell (World.block_lt_of_cell? w _ hx734_0)).trans hx734_0
                                              replace p734 := eq_true p734
                                              replace q734 := eq_true q734
                                              have p735 : 0 ≤ (x8_3 : Int) := of_decide_eq_true (by first | (with_reducible assumption) | assumption)
                                              have q735 : x8_3 < (l2.length : Int) := of_decide_eq_true (by first | (with_reducible assumption) | assumption)
                                              obtain ⟨ad735, e735, hx735_0⟩ := Kd.at_int HR2.out x8_3 p735 q735
                                              obtain rfl : ad734 = ad735 := (by injection e735)
                                              replace hx735_0 := (HB.out.cell (World.block_lt_of_cell? w _ hx735_0)).trans hx735_0
                                              replace p735 := eq_true p735
                                              replace q735 := eq_true q735
                                              have p736 : 0 ≤ (x9_4 : Int) := of_decide_eq_true (by first | (with_reducible assumption) | assumption)
                                              have q736 : x9_4 < (l2.length : Int) := of_decide_eq_true (by first | (with_reducible assumption) | assumption)
                                              obtain ⟨ad736, e736, hx736_0⟩ := Kd.at_int HR2.out x9_4 p736 q736
                                              obtain rfl : ad734 = ad736 := (by injection e736)
                                              replace hx736_0 := (HB.out.cell (World.block_lt_of_cell? w _ hx736_0)).trans hx736_0
                                              replace p736 := eq_true p736
                                              replace q736 := eq_true q736
                                              have p739 : 0 ≤ (t738 : Int) := of_decide_eq_true (by first | (with_reducible assumption) | assumption)
                                              have q739 : t738 < (l2.length : Int) := of_decide_eq_true (by first | (with_reducible assumption) | assumption)
                                              obtain ⟨ad739, e739, hx739_0⟩ := Kd.at_int HR2.out t738 p739 q739
                                              obtain rfl : ad734 = ad739 := (by injection e739)
                                              replace hx739_0 := (HB.out.cell (World.block_lt_of_cell? w _ hx739_0)).trans hx739_0
                                              replace p739 := eq_true p739
                                              replace q739 := eq_true q739
                                              have p740 : 0 ≤ (x8_3 : Int) := of_decide_eq_true (by first | (with_reducible assumption) | assumption)
                                              have q740 : x8_3 < (l2.length : Int) := of_decide_eq_true (by first | (with_reducible assumption) | assumption)
                                              obtain ⟨ad740, e740, hx740_0⟩ := Kd.at_int HR2.out x8_3 p740 q740
                                              obtain rfl : ad734 = ad740 := (by injection e740)
                                              replace hx740_0 := (HB.out.cell (World.block_lt_of_cell? w _ hx740_0)).trans hx740_0
                                              replace p740 := eq_true p740
                                              replace q740 := eq_true q740
                                              have p741 : 0 ≤ (x9_4 : Int) := of_decide_eq_true (by first | (with_reducible assumption) | assumption)
                                              have q741 : x9_4 < (l2.length : Int) := of_decide_eq_true (by first | (with_reducible assumption) | assumption)
                                              obtain ⟨ad741, e741, hx741_0⟩ := Kd.at_int HR2.out x9_4 p741 q741
                                              obtain rfl : ad734 = ad741 := (by injection e741)
                                              replace hx741_0 := (HB.out.cell (World.block_lt_of_cell? w _ hx741_0)).trans hx741_0
                                              replace p741 := eq_true p741
                                              replace q741 := eq_true q741
                                              refine qb_region (by kernel_rfl) (by kernel_rfl) ?_
                                              have HQ := fun (wq : World) (hq : Below wr.heap.size wr wq) => below_step HB.out hq
                                              repeat ((first | (apply qb_skip; (focus rfl)) | (refine qb_callN 56 rfl ?_; apply qb_call 56 rfl Try.func63 (by kernel_rfl) rfl rfl; (focus rfl); (focus (exact fun wq9 hb9 => qb_b hb9 (spec_l1Add.calls a0_0 _ _ l0_1 _ _ l0_2 _ _ l0_3 x8_3 x9_4 t733 _ (Kd.C_below HR0_1.out (HQ _ hb9)) HC0_1.out (Kd.C_below HR0_2.out (HQ _ hb9)) HC0_2.out (Kd.C_below HR0_3.out (HQ _ hb9)) HC0_3.out A43.out))); (focus (rfl))) | (refine qb_callN 68 rfl ?_; apply qb_call 68 rfl Try.func63 (by kernel_rfl) rfl rfl; (focus rfl); (focus (exact fun wq9 hb9 => qb_b hb9 (spec_l1Add.calls a1_0 _ _ l1_1 _ _ l1_2 _ _ l1_3 (rd l2 x8_3) (rd l2 x9_4) t737 _ (Kd.C_below HR1_1.out (HQ _ hb9)) HC1_1.out (Kd.C_below HR1_2.out (HQ _ hb9)) HC1_2.out (Kd.C_below HR1_3.out (HQ _ hb9)) HC1_3.out A50.out))); (focus (rfl))) | (refine qb_callN 75 rfl ?_; apply qb_call 75 rfl Try.func65 (by kernel_rfl) rfl rfl; (focus rfl); (focus (exact fun wq9 hb9 => qb_b hb9 (spec_l1Mul.calls a0_0 _ _ l0_1 _ _ l0_2 _ _ l0_3 x8_3 x9_4 t738 _ (Kd.C_below HR0_1.out (HQ _ hb9)) HC0_1.out (Kd.C_below HR0_2.out (HQ _ hb9)) HC0_2.out (Kd.C_below HR0_3.out (HQ _ hb9)) HC0_3.out A52.out))); (focus (rfl))) | (refine qb_callN 87 rfl ?_; apply qb_call 87 rfl Try.func65 (by kernel_rfl) rfl rfl; (focus rfl); (focus (exact fun wq9 hb9 => qb_b hb9 (spec_l1Mul.calls a1_0 _ _ l1_1 _ _ l1_2 _ _ l1_3 (rd l2 x8_3) (rd l2 x9_4) t742 _ (Kd.C_below HR1_1.out (HQ _ hb9)) HC1_1.out (Kd.C_below HR1_2.out (HQ _ hb9)) HC1_2.out (Kd.C_below HR1_3.out (HQ _ hb9)) HC1_3.out A55.out))); (focus (rfl))) | (apply qb_val; (focus rfl); (focus (intro wq9 _; go_simp; with_reducible rfl))) | (apply qb_val; (focus rfl); (focus (intro wq9 hb9_; have hb9 : Below wr.heap.size wr wq9 := hb9_; have BK725 := Aside0.mk (blk_below BK725.out hb9); have BK726 := Aside0.mk (blk_below BK726.out hb9); have hc9_725_0 : wq9.cell? ⟨gb725, 0, none⟩ = some (.int .i64 a0_0) := (blk_cell BK725.out 0).trans rfl; have hc9_725_1 : wq9.cell? ⟨gb725, 1, none⟩ = some (.slice A0_1 l0_1.length c0_1) := (blk_cell BK725.out 1).trans rfl; have hc9_725_2 : wq9.cell? ⟨gb725, 2, none⟩ = some (.slice A0_2 l0_2.length c0_2) := (blk_cell BK725.out 2).trans rfl; have hc9_725_3 : wq9.cell? ⟨gb725, 3, none⟩ = some (.slice A0_3 l0_3.length c0_3) := (blk_cell BK725.out 3).trans rfl; have hc9_726_0 : wq9.cell? ⟨gb726, 0, none⟩ = some (.int .i64 a1_0) := (blk_cell BK726.out 0).trans rfl; have hc9_726_1 : wq9.cell? ⟨gb726, 1, none⟩ = some (.slice A1_1 l1_1.length c1_1) := (blk_cell BK726.out 1).trans rfl; have hc9_726_2 : wq9.cell? ⟨gb726, 2, none⟩ = some (.slice A1_2 l1_2.length c1_2) := (blk_cell BK726.out 2).trans rfl; have hc9_726_3 : wq9.cell? ⟨gb726, 3, none⟩ = some (.slice A1_3 l1_3.length c1_3) := (blk_cell BK726.out 3).trans rfl; have hx734_0 := (hb9.cell (World.block_lt_of_cell? _ _ hx734_0)).trans hx734_0; have hx735_0 := (hb9.cell (World.block_lt_of_cell? _ _ hx735_0)).trans hx735_0; have hx736_0 := (hb9.cell (World.block_lt_of_cell? _ _ hx736_0)).trans hx736_0; have hx739_0 := (hb9.cell (World.block_lt_of_cell? _ _ hx739_0)).trans hx739_0; have hx740_0 := (hb9.cell (World.block_lt_of_cell? _ _ hx740_0)).trans hx740_0; have hx741_0 := (hb9.cell (World.block_lt_of_cell? _ _ hx741_0)).trans hx741_0; go_simp; with_reducible rfl)))); (focus (simp only [Act.put, List.setIfInBounds_toArray, List.set_cons_zero, List.set_cons_succ, i64_w, i32_w]; rfl)))
                                              refine qb_nil ?_
                                              intro w93 hb
                                              have n0_ := Aside0.mk (blk_below BK725.out hb)
                                              have n1_ := Aside0.mk (blk_below BK726.out hb)
                                              have n2_ := Aside0.mk (below_step HB.out hb)
                                              clear BK725
                                              clear BK726
                                              clear HB
                                              have BK725 := n0_
                                              have BK726 := n1_
                                              have HB := n2_
                                              clear n0_ n1_ n2_
                                              clear hb
                                              (try clear HQ)
                                              try go_wp2
                                              go_ret
                                              exact ⟨by first | rfl | (simp [errW_none, errW_some] <;> rfl) | (simp [*, errW_none, errW_some] <;> rfl), by repeat (first | (with_reducible first | exact HB.out | apply below_alloc | apply pw_below_drewN | apply below_drew1 | refine below_set ?_ GE725.out | refine below_set ?_ GE726.out) | exact HB.out)⟩
                                          · rw [if_neg c54] at H
                                            exact absurd H (by simp)
                                        · rw [if_neg c53] at H
                                          exact absurd H (by simp)
                                      · rw [if_neg c51] at H
                                        have c51b0 : ((rd l2 t733) == t737) = false := beq_eq_false_iff_ne.mpr c51
                                        have c51b1 : ((rd l2 t733) != t737) = true := bne_iff_ne.mpr c51
                                        obtain rfl := Option.some.inj H
                                        have hnb94 := NB725_726.out
                                        have hnc94 := NB726_725.out
                                        have hcz95_0 : wr.cell? ⟨gb725, 0, none⟩ = some (.int .i64 a0_0) := (blk_cell BK725.out 0).trans rfl
                                        have hcz95_1 : wr.cell? ⟨gb725, 1, none⟩ = some (.slice A0_1 l0_1.length c0_1) := (blk_cell BK725.out 1).trans rfl
                                        have hcz95_2 : wr.cell? ⟨gb725, 2, none⟩ = some (.slice A0_2 l0_2.length c0_2) := (blk_cell BK725.out 2).trans rfl
                                        have hcz95_3 : wr.cell? ⟨gb725, 3, none⟩ = some (.slice A0_3 l0_3.length c0_3) := (blk_cell BK725.out 3).trans rfl
                                        have hfz95_0 := blk_frozen BK725.out 0
                                        have hfz95_1 := blk_frozen BK725.out 1
                                        have hfz95_2 := blk_frozen BK725.out 2
                                        have hfz95_3 := blk_frozen BK725.out 3
                                        try go_wp2
                                        have p734 : 0 ≤ (t733 : Int) := of_decide_eq_true (by first | (with_reducible assumption) | assumption)
                                        have q734 : t733 < (l2.length : Int) := of_decide_eq_true (by first | (with_reducible assumption) | assumption)
                                        obtain ⟨ad734, e734, hx734_0⟩ := Kd.at_int HR2.out t733 p734 q734
                                        cases e734
                                        replace hx734_0 := (HB.out.cell (World.block_lt_of_cell? w _ hx734_0)).trans hx734_0
                                        replace p734 := eq_true p734
                                        replace q734 := eq_true q734
                                        have p735 : 0 ≤ (x8_3 : Int) := of_decide_eq_true (by first | (with_reducible assumption) | assumption)
                                        have q735 : x8_3 < (l2.length : Int) := of_decide_eq_true (by first | (with_reducible assumption) | assumption)
                                        obtain ⟨ad735, e735, hx735_0⟩ := Kd.at_int HR2.out x8_3 p735 q735
                                        obtain rfl : ad734 = ad735 := (by injection e735)
                                        replace hx735_0 := (HB.out.cell (World.block_lt_of_cell? w _ hx735_0)).trans hx735_0
                                        replace p735 := eq_true p735
                                        replace q735 := eq_true q735
                                        have p736 : 0 ≤ (x9_4 : Int) := of_decide_eq_true (by first | (with_reducible assumption) | assumption)
                                        have q736 : x9_4 < (l2.length : Int) := of_decide_eq_true (by first | (with_reducible assumption) | assumption)
                                        obtain ⟨ad736, e736, hx736_0⟩ := Kd.at_int HR2.out x9_4 p736 q736
                                        obtain rfl : ad734 = ad736 := (by injection e736)
                                        replace hx736_0 := (HB.out.cell (World.block_lt_of_cell? w _ hx736_0)).trans hx736_0
                                        replace p736 := eq_true p736
                                        replace q736 := eq_true q736
                                        refine qb_region (by kernel_rfl) (by kernel_rfl) ?_
                                        have HQ := fun (wq : World) (hq : Below wr.heap.size wr wq) => below_step HB.out hq
                                        repeat ((first | (apply qb_skip; (focus rfl)) | (refine qb_callN 56 rfl ?_; apply qb_call 56 rfl Try.func63 (by kernel_rfl) rfl rfl; (focus rfl); (focus (exact fun wq9 hb9 => qb_b hb9 (spec_l1Add.calls a0_0 _ _ l0_1 _ _ l0_2 _ _ l0_3 x8_3 x9_4 t733 _ (Kd.C_below HR0_1.out (HQ _ hb9)) HC0_1.out (Kd.C_below HR0_2.out (HQ _ hb9)) HC0_2.out (Kd.C_below HR0_3.out (HQ _ hb9)) HC0_3.out A43.out))); (focus (rfl))) | (refine qb_callN 68 rfl ?_; apply qb_call 68 rfl Try.func63 (by kernel_rfl) rfl rfl; (focus rfl); (focus (exact fun wq9 hb9 => qb_b hb9 (spec_l1Add.calls a1_0 _ _ l1_1 _ _ l1_2 _ _ l1_3 (rd l2 x8_3) (rd l2 x9_4) t737 _ (Kd.C_below HR1_1.out (HQ _ hb9)) HC1_1.out (Kd.C_below HR1_2.out (HQ _ hb9)) HC1_2.out (Kd.C_below HR1_3.out (HQ _ hb9)) HC1_3.out A50.out))); (focus (rfl))) | (apply qb_val; (focus rfl); (focus (intro wq9 _; go_simp; with_reducible rfl))) | (apply qb_val; (focus rfl); (focus (intro wq9 hb9_; have hb9 : Below wr.heap.size wr wq9 := hb9_; have BK725 := Aside0.mk (blk_below BK725.out hb9); have BK726 := Aside0.mk (blk_below BK726.out hb9); have hc9_725_0 : wq9.cell? ⟨gb725, 0, none⟩ = some (.int .i64 a0_0) := (blk_cell BK725.out 0).trans rfl; have hc9_725_1 : wq9.cell? ⟨gb725, 1, none⟩ = some (.slice A0_1 l0_1.length c0_1) := (blk_cell BK725.out 1).trans rfl; have hc9_725_2 : wq9.cell? ⟨gb725, 2, none⟩ = some (.slice A0_2 l0_2.length c0_2) := (blk_cell BK725.out 2).trans rfl; have hc9_725_3 : wq9.cell? ⟨gb725, 3, none⟩ = some (.slice A0_3 l0_3.length c0_3) := (blk_cell BK725.out 3).trans rfl; have hc9_726_0 : wq9.cell? ⟨gb726, 0, none⟩ = some (.int .i64 a1_0) := (blk_cell BK726.out 0).trans rfl; have hc9_726_1 : wq9.cell? ⟨gb726, 1, none⟩ = some (.slice A1_1 l1_1.length c1_1) := (blk_cell BK726.out 1).trans rfl; have hc9_726_2 : wq9.cell? ⟨gb726, 2, none⟩ = some (.slice A1_2 l1_2.length c1_2) := (blk_cell BK726.out 2).trans rfl; have hc9_726_3 : wq9.cell? ⟨gb726, 3, none⟩ = some (.slice A1_3 l1_3.length c1_3) := (blk_cell BK726.out 3).trans rfl; have hx734_0 := (hb9.cell (World.block_lt_of_cell? _ _ hx734_0)).trans hx734_0; have hx735_0 := (hb9.cell (World.block_lt_of_cell? _ _ hx735_0)).trans hx735_0; have hx736_0 := (hb9.cell (World.block_lt_of_cell? _ _ hx736_0)).trans hx736_0; go_simp; with_reducible rfl)))); (focus (simp only [Act.put, List.setIfInBounds_toArray, List.set_cons_zero, List.set_cons_succ, i64_w, i32_w]; rfl)))
                                        refine qb_nil ?_
                                        intro w98 hb
                                        have n0_ := Aside0.mk (blk_below BK725.out hb)
                                        have n1_ := Aside0.mk (blk_below BK726.out hb)
                                        have n2_ := Aside0.mk (below_step HB.out hb)
                                        clear BK725
                                        clear BK726
                                        clear HB
                                        have BK725 := n0_
                                        have BK726 := n1_
                                        have HB := n2_
                                        clear n0_ n1_ n2_
                                        clear hb
                                        (try clear HQ)
                                        try go_wp2
                                        go_ret
                                        exact ⟨by first | rfl | (simp [errW_none, errW_some] <;> rfl) | (simp [*, errW_none, errW_some] <;> rfl), by repeat (first | (with_reducible first | exact HB.out | apply below_alloc | apply pw_below_drewN | apply below_drew1 | refine below_set ?_ GE725.out | refine below_set ?_ GE726.out) | exact HB.out)⟩
                                    · rw [if_neg c49] at H
                                      exact absurd H (by simp)
                                  · rw [if_neg c48] at H
                                    exact absurd H (by simp)
                                · rw [if_neg c47] at H
                                  exact absurd H (by simp)
                              · rw [if_neg c46] at H
                                exact absurd H (by simp)
                            · rw [if_neg c45] at H
                              exact absurd H (by simp)
                          · rw [if_neg c44] at H
                            exact absurd H (by simp)
                        · rw [if_neg c42] at H
                          have c42b0 : decide (x9_4 < a0_0) = false := decide_eq_false c42
                          clear c42
                          have H' := Aside0.mk H
                          clear H
                          have hnb99 := NB725_726.out
                          have hnc99 := NB726_725.out
                          have hcz100_0 : wr.cell? ⟨gb725, 0, none⟩ = some (.int .i64 a0_0) := (blk_cell BK725.out 0).trans rfl
                          have hcz100_1 : wr.cell? ⟨gb725, 1, none⟩ = some (.slice A0_1 l0_1.length c0_1) := (blk_cell BK725.out 1).trans rfl
                          have hcz100_2 : wr.cell? ⟨gb725, 2, none⟩ = some (.slice A0_2 l0_2.length c0_2) := (blk_cell BK725.out 2).trans rfl
                          have hcz100_3 : wr.cell? ⟨gb725, 3, none⟩ = some (.slice A0_3 l0_3.length c0_3) := (blk_cell BK725.out 3).trans rfl
                          have hfz100_0 := blk_frozen BK725.out 0
                          have hfz100_1 := blk_frozen BK725.out 1
                          have hfz100_2 := blk_frozen BK725.out 2
                          have hfz100_3 := blk_frozen BK725.out 3
                          go_wp2
                          go_roundg k4
                          case measure => have := HJ3.out; have := HK2.out; have := HK3.out; have := HK4.out; omega
                          case rel => exact ⟨(wrap64 (x8_3 + 1)), (by first | rfl | (simp; done) | (simp [*]; done)), H', ⟨by have := HJ3.out; have := HK2.out; have := HK3.out; have := HK4.out; omega⟩, ⟨by (with_reducible repeat (first | refine blk_drewN ?_ _ | refine blk_drew ?_ | refine blk_alloc ?_ _)); exact BK725.out⟩, ⟨by (with_reducible repeat (first | refine blk_drewN ?_ _ | refine blk_drew ?_ | refine blk_alloc ?_ _)); exact BK726.out⟩, ⟨by repeat (first | (with_reducible first | exact HB.out | apply below_alloc | apply pw_below_drewN | apply below_drew1 | refine below_set ?_ GE725.out | refine below_set ?_ GE726.out) | exact HB.out)⟩⟩
                  · rw [if_neg c39] at H
                    have c39b0 : decide (x8_3 < a0_0) = false := decide_eq_false c39
                    clear c39
                    by_cases c101 : 0 < (l2.length : Int)
                    · rw [if_pos c101] at H
                      have c101b0 : decide (0 < (l2.length : Int)) = true := decide_eq_true c101
                      have c101b1 : decide (0 < l2.length) = true := decide_eq_true (by omega)
                      clear c101
                      by_cases c102 : (rd l2 0) = 0
                      · rw [if_pos c102] at H
                        have c102b0 : ((rd l2 0) == 0) = true := beq_iff_eq.mpr c102
                        have c102b1 : ((rd l2 0) != 0) = false := bne_eq_false_iff_eq.mpr c102
                        clear c102
                        by_cases c103 : 1 < (l2.length : Int)
                        · rw [if_pos c103] at H
                          have c103b0 : decide (1 < (l2.length : Int)) = true := decide_eq_true c103
                          have c103b1 : decide (1 < l2.length) = true := decide_eq_true (by omega)
                          clear c103
                          obtain rfl := Option.some.inj H
                          have hnb104 := NB725_726.out
                          have hnc104 := NB726_725.out
                          have hcz105_0 : wr.cell? ⟨gb725, 0, none⟩ = some (.int .i64 a0_0) := (blk_cell BK725.out 0).trans rfl
                          have hcz105_1 : wr.cell? ⟨gb725, 1, none⟩ = some (.slice A0_1 l0_1.length c0_1) := (blk_cell BK725.out 1).trans rfl
                          have hcz105_2 : wr.cell? ⟨gb725, 2, none⟩ = some (.slice A0_2 l0_2.length c0_2) := (blk_cell BK725.out 2).trans rfl
                          have hcz105_3 : wr.cell? ⟨gb725, 3, none⟩ = some (.slice A0_3 l0_3.length c0_3) := (blk_cell BK725.out 3).trans rfl
                          have hfz105_0 := blk_frozen BK725.out 0
                          have hfz105_1 := blk_frozen BK725.out 1
                          have hfz105_2 := blk_frozen BK725.out 2
                          have hfz105_3 := blk_frozen BK725.out 3
                          have p731 : 0 ≤ (0 : Int) := (by omega)
                          have q731 : 0 < (l2.length : Int) := of_decide_eq_true (by first | (with_reducible assumption) | assumption)
                          obtain ⟨ad731, e731, hx731_0⟩ := Kd.at_int HR2.out 0 p731 q731
                          cases e731
                          have qi731 : (0 < l2.length) = True := eq_true (by omega)
                          (try rw [show ((0 : Int)).toNat = 0 from rfl] at hx731_0)
                          (try rw [Addr.add_zero'] at hx731_0)
                          replace hx731_0 := (HB.out.cell (World.block_lt_of_cell? w _ hx731_0)).trans hx731_0
                          replace p731 := eq_true p731
                          replace q731 := eq_true q731
                          have p732 : 0 ≤ (1 : Int) := (by omega)
                          have q732 : 1 < (l2.length : Int) := of_decide_eq_true (by first | (with_reducible assumption) | assumption)
                          obtain ⟨ad732, e732, hx732_0⟩ := Kd.at_int HR2.out 1 p732 q732
                          obtain rfl : ad731 = ad732 := (by injection e732)
                          (try simp only [show (1 : Int).toNat = 1 from rfl, Nat.reduceMul, Nat.reduceEqDiff, Go.Addr.add, ↓reduceIte] at hx732_0)
                          have qi732 : (1 < l2.length) = True := eq_true (by omega)
                          (try rw [show ((1 : Int)).toNat = 1 from rfl] at hx732_0)
                          replace hx732_0 := (HB.out.cell (World.block_lt_of_cell? w _ hx732_0)).trans hx732_0
                          replace p732 := eq_true p732
                          replace q732 := eq_true q732
                          go_wp2
                          go_ret
                          exact ⟨by first | rfl | (simp [errW_none, errW_some] <;> rfl) | (simp [*, errW_none, errW_some] <;> rfl), by repeat (first | (with_reducible first | exact HB.out | apply below_alloc | apply pw_below_drewN | apply below_drew1 | refine below_set ?_ GE725.out | refine below_set ?_ GE726.out) | exact HB.out)⟩
                        · rw [if_neg c103] at H
                          exact absurd H (by simp)
                      · rw [if_neg c102] at H
                        have c102b0 : ((rd l2 0) == 0) = false := beq_eq_false_iff_ne.mpr c102
                        have c102b1 : ((rd l2 0) != 0) = true := bne_iff_ne.mpr c102
                        obtain rfl := Option.some.inj H
                        have hnb106 := NB725_726.out
                        have hnc106 := NB726_725.out
                        have hcz107_0 : wr.cell? ⟨gb725, 0, none⟩ = some (.int .i64 a0_0) := (blk_cell BK725.out 0).trans rfl
                        have hcz107_1 : wr.cell? ⟨gb725, 1, none⟩ = some (.slice A0_1 l0_1.length c0_1) := (blk_cell BK725.out 1).trans rfl
                        have hcz107_2 : wr.cell? ⟨gb725, 2, none⟩ = some (.slice A0_2 l0_2.length c0_2) := (blk_cell BK725.out 2).trans rfl
                        have hcz107_3 : wr.cell? ⟨gb725, 3, none⟩ = some (.slice A0_3 l0_3.length c0_3) := (blk_cell BK725.out 3).trans rfl
                        have hfz107_0 := blk_frozen BK725.out 0
                        have hfz107_1 := blk_frozen BK725.out 1
                        have hfz107_2 := blk_frozen BK725.out 2
                        have hfz107_3 := blk_frozen BK725.out 3
                        have p731 : 0 ≤ (0 : Int) := (by omega)
                        have q731 : 0 < (l2.length : Int) := of_decide_eq_true (by first | (with_reducible assumption) | assumption)
                        obtain ⟨ad731, e731, hx731_0⟩ := Kd.at_int HR2.out 0 p731 q731
                        cases e731
                        have qi731 : (0 < l2.length) = True := eq_true (by omega)
                        (try rw [show ((0 : Int)).toNat = 0 from rfl] at hx731_0)
                        (try rw [Addr.add_zero'] at hx731_0)
                        replace hx731_0 := (HB.out.cell (World.block_lt_of_cell? w _ hx731_0)).trans hx731_0
                        replace p731 := eq_true p731
                        replace q731 := eq_true q731
                        go_wp2
                        go_ret
                        exact ⟨by first | rfl | (simp [errW_none, errW_some] <;> rfl) | (simp [*, errW_none, errW_some] <;> rfl), by repeat (first | (with_reducible first | exact HB.out | apply below_alloc | apply pw_below_drewN | apply below_drew1 | refine below_set ?_ GE725.out | refine below_set ?_ GE726.out) | exact HB.out)⟩
                    · rw [if_neg c101] at H
                      exact absurd H (by simp)

end Go.Proofs.Ythdbijjkcoafiaa.P
