-- Printed by this session's own program (wip/tools/mkprint.py) out of the translation. Not trusted: Lean checks it.
import Derived.Test.YthdbijjkcoafiaaP0
import Derived.Test.YthdbijjkcoafiaaPf18
import Derived.Test.YthdbijjkcoafiaaPf53
import Derived.Test.YthdbijjkcoafiaaPf54
import Derived.Test.YthdbijjkcoafiaaPf55
import Derived.Test.YthdbijjkcoafiaaPf66
import Derived.Test.YthdbijjkcoafiaaPf68
namespace Go.Proofs.Ythdbijjkcoafiaa.P
open Go.RowKit Go.Proofs.YthdbijjkcoafiaaW.PrintWords Go.Proofs.YthdbijjkcoafiaaW.PrintLast Go.Proofs.YthdbijjkcoafiaaW.PrintMore
attribute [local go_sem] max2_int min2_int max_two min_two max_three min_three max_four min_four   -- for this text's walks alone
set_option linter.unusedVariables false
set_option linter.unusedSimpArgs false

/-! ### impl_IsMap: function 41 -/
mutual
def impl_IsMap.j0 : Nat → List Int → Bool → Int → List Int → List Int → List Bool → Int → List Int → List Int → List Bool → Option (Bool)
  | 0, _, _, _, _, _, _, _, _, _, _ => none
  | k + 1, x2, x40, x749000, x749001, x749002, x749003, x750000, x750001, x750002, x750003 => if x40 = true then (some false) else (impl_IsMap.l0 k x2 0 x749000 x749001 x749002 x749003 x750000 x750001 x750002 x750003)
def impl_IsMap.l0 : Nat → List Int → Int → Int → List Int → List Int → List Bool → Int → List Int → List Int → List Bool → Option (Bool)
  | 0, _, _, _, _, _, _, _, _, _, _ => none
  | k + 1, x2, x7, x749000, x749001, x749002, x749003, x750000, x750001, x750002, x750003 => if x7 < x749000 then (impl_IsMap.l1 k x2 x7 0 x749000 x749001 x749002 x749003 x750000 x750001 x750002 x750003) else (some true)
def impl_IsMap.l1 : Nat → List Int → Int → Int → Int → List Int → List Int → List Bool → Int → List Int → List Int → List Bool → Option (Bool)
  | 0, _, _, _, _, _, _, _, _, _, _, _ => none
  | k + 1, x2, x7, x8, x749000, x749001, x749002, x749003, x750000, x750001, x750002, x750003 => if x8 < x749000 then ((impl_System_plus.f x749000 x749001 x749002 x749003 x7 x8).bind fun t755 => (if 0 ≤ t755 then (if t755 < (x2.length : Int) then (if 0 ≤ x7 then (if x7 < (x2.length : Int) then (if 0 ≤ x8 then (if x8 < (x2.length : Int) then ((impl_System_plus.f x750000 x750001 x750002 x750003 (rd x2 x7) (rd x2 x8)).bind fun t759 => (if (rd x2 t755) = t759 then ((impl_System_times.f x749000 x749001 x749002 x749003 x7 x8).bind fun t760 => (if 0 ≤ t760 then (if t760 < (x2.length : Int) then ((impl_System_times.f x750000 x750001 x750002 x750003 (rd x2 x7) (rd x2 x8)).bind fun t764 => (if (rd x2 t760) = t764 then ((impl_System_below.f x749000 x749001 x749002 x749003 x7 x8).bind fun t765 => (if t765 = true then ((impl_System_below.f x750000 x750001 x750002 x750003 (rd x2 x7) (rd x2 x8)).bind fun t768 => (if t768 = true then (impl_IsMap.l1 k x2 x7 (wrap64 (x8 + 1)) x749000 x749001 x749002 x749003 x750000 x750001 x750002 x750003) else (some false))) else (impl_IsMap.l1 k x2 x7 (wrap64 (x8 + 1)) x749000 x749001 x749002 x749003 x750000 x750001 x750002 x750003))) else (some false))) else (none)) else (none))) else (some false))) else (none)) else (none)) else (none)) else (none)) else (none)) else (none))) else (impl_IsMap.l0 k x2 (wrap64 (x7 + 1)) x749000 x749001 x749002 x749003 x750000 x750001 x750002 x750003)
end
def impl_IsMap.f (k : Nat) (a0_0 : Int) (l0_1 : List Int) (l0_2 : List Int) (l0_3 : List Bool) (a1_0 : Int) (l1_1 : List Int) (l1_2 : List Int) (l1_3 : List Bool) (l2 : List Int) : Option (Bool) := (impl_IsSystem.f k a0_0 l0_1 l0_2 l0_3).bind fun t750 => (if t750 = true then ((impl_IsSystem.f k a1_0 l1_1 l1_2 l1_3).bind fun t751 => (if t751 = true then (if (l2.length : Int) = a0_0 then ((slices_ContainsFunc_int_int.f k l2 (fun z0_ => impl_IsMap_1.f z0_ a1_0 l1_1 l1_2 l1_3)).bind fun t752 => (if t752 = true then (impl_IsMap.j0 k l2 true a0_0 l0_1 l0_2 l0_3 a1_0 l1_1 l1_2 l1_3) else (if 0 < (l2.length : Int) then (if (rd l2 0) = 0 then (if 1 < (l2.length : Int) then (impl_IsMap.j0 k l2 ((rd l2 1) != 1) a0_0 l0_1 l0_2 l0_3 a1_0 l1_1 l1_2 l1_3) else (none)) else (impl_IsMap.j0 k l2 true a0_0 l0_1 l0_2 l0_3 a1_0 l1_1 l1_2 l1_3)) else (none)))) else (impl_IsMap.j0 k l2 true a0_0 l0_1 l0_2 l0_3 a1_0 l1_1 l1_2 l1_3)) else (impl_IsMap.j0 k l2 true a0_0 l0_1 l0_2 l0_3 a1_0 l1_1 l1_2 l1_3))) else (impl_IsMap.j0 k l2 true a0_0 l0_1 l0_2 l0_3 a1_0 l1_1 l1_2 l1_3))
set_option maxHeartbeats 8000000 in
set_option maxRecDepth 100000 in
theorem impl_IsMap.calls (k : Nat) (a0_0 : Int) (A0_1 : Option Addr) (c0_1 : Nat) (l0_1 : List Int) (A0_2 : Option Addr) (c0_2 : Nat) (l0_2 : List Int) (A0_3 : Option Addr) (c0_3 : Nat) (l0_3 : List Bool) (a1_0 : Int) (A1_1 : Option Addr) (c1_1 : Nat) (l1_1 : List Int) (A1_2 : Option Addr) (c1_2 : Nat) (l1_2 : List Int) (A1_3 : Option Addr) (c1_3 : Nat) (l1_3 : List Bool) (A2 : Option Addr) (c2 : Nat) (l2 : List Int) (r : Bool) (w : World) (hr0_1 : Kd.C (Kd.int .i64) w A0_1 l0_1.length l0_1) (hc0_1 : l0_1.length ≤ c0_1) (hr0_2 : Kd.C (Kd.int .i64) w A0_2 l0_2.length l0_2) (hc0_2 : l0_2.length ≤ c0_2) (hr0_3 : Kd.C Kd.bool w A0_3 l0_3.length l0_3) (hc0_3 : l0_3.length ≤ c0_3) (hr1_1 : Kd.C (Kd.int .i64) w A1_1 l1_1.length l1_1) (hc1_1 : l1_1.length ≤ c1_1) (hr1_2 : Kd.C (Kd.int .i64) w A1_2 l1_2.length l1_2) (hc1_2 : l1_2.length ≤ c1_2) (hr1_3 : Kd.C Kd.bool w A1_3 l1_3.length l1_3) (hc1_3 : l1_3.length ≤ c1_3) (hr2 : Kd.C (Kd.int .i64) w A2 l2.length l2) (hc2 : l2.length ≤ c2) (h : impl_IsMap.f k a0_0 l0_1 l0_2 l0_3 a1_0 l1_1 l1_2 l1_3 l2 = some r) :
    Calls Try.prog 41 #[.agg #[.int .i64 a0_0, .slice A0_1 l0_1.length c0_1, .slice A0_2 l0_2.length c0_2, .slice A0_3 l0_3.length c0_3], .agg #[.int .i64 a1_0, .slice A1_1 l1_1.length c1_1, .slice A1_2 l1_2.length c1_2, .slice A1_3 l1_3.length c1_3], .slice A2 l2.length c2] w fun e w' => e = .returned (.bool r) ∧ Below w.heap.size w w' := by
  have hu28 := Try.underlying28
  have HR0_1 := Aside0.mk hr0_1
  have HC0_1 := Aside0.mk hc0_1
  clear hr0_1 hc0_1
  have HR0_2 := Aside0.mk hr0_2
  have HC0_2 := Aside0.mk hc0_2
  clear hr0_2 hc0_2
  have HR0_3 := Aside0.mk hr0_3
  have HC0_3 := Aside0.mk hc0_3
  clear hr0_3 hc0_3
  have HR1_1 := Aside0.mk hr1_1
  have HC1_1 := Aside0.mk hc1_1
  clear hr1_1 hc1_1
  have HR1_2 := Aside0.mk hr1_2
  have HC1_2 := Aside0.mk hc1_2
  clear hr1_2 hc1_2
  have HR1_3 := Aside0.mk hr1_3
  have HC1_3 := Aside0.mk hc1_3
  clear hr1_3 hc1_3
  have HR2 := Aside0.mk hr2
  have HC2 := Aside0.mk hc2
  clear hr2 hc2
  have HB := Aside0.mk (Below.refl w.heap.size w)
  have H : ((impl_IsSystem.f k a0_0 l0_1 l0_2 l0_3).bind fun t750 => (if t750 = true then ((impl_IsSystem.f k a1_0 l1_1 l1_2 l1_3).bind fun t751 => (if t751 = true then (if (l2.length : Int) = a0_0 then ((slices_ContainsFunc_int_int.f k l2 (fun z0_ => impl_IsMap_1.f z0_ a1_0 l1_1 l1_2 l1_3)).bind fun t752 => (if t752 = true then (impl_IsMap.j0 k l2 true a0_0 l0_1 l0_2 l0_3 a1_0 l1_1 l1_2 l1_3) else (if 0 < (l2.length : Int) then (if (rd l2 0) = 0 then (if 1 < (l2.length : Int) then (impl_IsMap.j0 k l2 ((rd l2 1) != 1) a0_0 l0_1 l0_2 l0_3 a1_0 l1_1 l1_2 l1_3) else (none)) else (impl_IsMap.j0 k l2 true a0_0 l0_1 l0_2 l0_3 a1_0 l1_1 l1_2 l1_3)) else (none)))) else (impl_IsMap.j0 k l2 true a0_0 l0_1 l0_2 l0_3 a1_0 l1_1 l1_2 l1_3)) else (impl_IsMap.j0 k l2 true a0_0 l0_1 l0_2 l0_3 a1_0 l1_1 l1_2 l1_3))) else (impl_IsMap.j0 k l2 true a0_0 l0_1 l0_2 l0_3 a1_0 l1_1 l1_2 l1_3))) = some r := h
  clear h
  have HC4 := Aside0.mk H
  clear H
  go_enter Try.func41, Try.ntmps41
  go_upto_region 1 with (first | ((with_reducible refine gate_dst (N := 3) rfl ?_); (try (refine gate_guard (by rfl) ?_; dsimp only)); refine box_event ?hg (N := 3) ?hd (cs := #[.int .i64 a0_0, .slice A0_1 l0_1.length c0_1, .slice A0_2 l0_2.length c0_2, .slice A0_3 l0_3.length c0_3]) (t := 28) ?hr ?_; (case hd => rfl); (case hg => rfl); (case hr => first | (go_simp; done) | (go_simp; rfl)); intro gb748 hg w5 hbox hb; have n0_ := Aside0.mk (below_step (by repeat (first | (with_reducible first | exact HB.out | apply below_alloc | apply pw_below_drewN | apply below_drew1) | exact HB.out)) hb); have n1_ := Aside0.mk (hbox); have n2_ := Aside0.mk ((by rw [hg]; exact (below_size (by repeat (first | (with_reducible first | exact HB.out | apply below_alloc | apply pw_below_drewN | apply below_drew1) | exact HB.out))) : w.heap.size ≤ gb748)); have n3_ := Aside0.mk ((by rw [hg]; exact (below_size (by repeat (first | (with_reducible first | exact HB.out | apply below_alloc | apply pw_below_drewN | apply below_drew1) | exact HB.out))) : w.heap.size ≤ gb748)); clear HB; have HB := n0_; have BK748 := n1_; have GW748 := n2_; have GE748 := n3_; clear n0_ n1_ n2_ n3_; clear hb hbox hg) | ((with_reducible refine gate_dst (N := 4) rfl ?_); (try (refine gate_guard (by rfl) ?_; dsimp only)); refine box_event ?hg (N := 4) ?hd (cs := #[.int .i64 a1_0, .slice A1_1 l1_1.length c1_1, .slice A1_2 l1_2.length c1_2, .slice A1_3 l1_3.length c1_3]) (t := 28) ?hr ?_; (case hd => rfl); (case hg => rfl); (case hr => first | (go_simp; done) | (go_simp; rfl)); intro gb749 hg w6 hbox hb; have n0_ := Aside0.mk (blk_below (g := gb748) (o := .cells #[.int .i64 a0_0, .slice A0_1 l0_1.length c0_1, .slice A0_2 l0_2.length c0_2, .slice A0_3 l0_3.length c0_3] 28 (0, 0)) (by (with_reducible repeat (first | refine blk_drewN ?_ _ | refine blk_drew ?_ | refine blk_alloc ?_ _)); exact BK748.out) hb); have n1_ := Aside0.mk (below_step (by repeat (first | (with_reducible first | exact HB.out | apply below_alloc | apply pw_below_drewN | apply below_drew1 | refine below_set ?_ GE748.out) | exact HB.out)) hb); have n2_ := Aside0.mk (hbox); have n3_ := Aside0.mk ((by rw [hg]; exact (below_size (by repeat (first | (with_reducible first | exact HB.out | apply below_alloc | apply pw_below_drewN | apply below_drew1 | refine below_set ?_ GE748.out) | exact HB.out))) : w.heap.size ≤ gb749)); have n4_ := Aside0.mk ((by rw [hg]; exact (below_size (by repeat (first | (with_reducible first | exact HB.out | apply below_alloc | apply pw_below_drewN | apply below_drew1 | refine below_set ?_ GE748.out) | exact HB.out))) : w.heap.size ≤ gb749)); have n5_ := Aside0.mk ((by rw [hg]; exact Nat.ne_of_lt (blk_lt (g := gb748) (o := .cells #[.int .i64 a0_0, .slice A0_1 l0_1.length c0_1, .slice A0_2 l0_2.length c0_2, .slice A0_3 l0_3.length c0_3] 28 (0, 0)) (by (with_reducible repeat (first | refine blk_drewN ?_ _ | refine blk_drew ?_ | refine blk_alloc ?_ _)); exact BK748.out)) : gb748 ≠ gb749)); have n6_ := Aside0.mk ((by rw [hg]; exact Nat.ne_of_gt (blk_lt (g := gb748) (o := .cells #[.int .i64 a0_0, .slice A0_1 l0_1.length c0_1, .slice A0_2 l0_2.length c0_2, .slice A0_3 l0_3.length c0_3] 28 (0, 0)) (by (with_reducible repeat (first | refine blk_drewN ?_ _ | refine blk_drew ?_ | refine blk_alloc ?_ _)); exact BK748.out)) : gb749 ≠ gb748)); clear BK748; clear HB; have BK748 := n0_; have HB := n1_; have BK749 := n2_; have GW749 := n3_; have GE749 := n4_; have NB748_749 := n5_; have NB749_748 := n6_; clear n0_ n1_ n2_ n3_ n4_ n5_ n6_; clear hb hbox hg))
  (try simp only [Act.put, List.setIfInBounds_toArray, List.set_cons_zero, List.set_cons_succ])
  go_cut [40] (fun v40 wc => ∃ (kq : Nat) (x40_3 : Bool), v40 = .bool x40_3 ∧ Aside0 (impl_IsMap.j0 kq l2 x40_3 a0_0 l0_1 l0_2 l0_3 a1_0 l1_1 l1_2 l1_3 = some r) ∧ Aside0 (kq ≤ k) ∧ Aside0 (wc.heap[gb748]? = some (.cells #[.int .i64 a0_0, (.slice A0_1 l0_1.length c0_1), (.slice A0_2 l0_2.length c0_2), (.slice A0_3 l0_3.length c0_3)] 28 (0, 0))) ∧ Aside0 (wc.heap[gb749]? = some (.cells #[.int .i64 a1_0, (.slice A1_1 l1_1.length c1_1), (.slice A1_2 l1_2.length c1_2), (.slice A1_3 l1_3.length c1_3)] 28 (0, 0))) ∧ Aside0 (Below w.heap.size w wc))
  case first =>
    have H := HC4.out
    clear HC4
    replace H := Option.bind_eq_some_iff.mp H
    obtain ⟨t750, A70, H⟩ := H
    replace H : (if t750 = true then ((impl_IsSystem.f k a1_0 l1_1 l1_2 l1_3).bind fun t751 => (if t751 = true then (if (l2.length : Int) = a0_0 then ((slices_ContainsFunc_int_int.f k l2 (fun z0_ => impl_IsMap_1.f z0_ a1_0 l1_1 l1_2 l1_3)).bind fun t752 => (if t752 = true then (impl_IsMap.j0 k l2 true a0_0 l0_1 l0_2 l0_3 a1_0 l1_1 l1_2 l1_3) else (if 0 < (l2.length : Int) then (if (rd l2 0) = 0 then (if 1 < (l2.length : Int) then (impl_IsMap.j0 k l2 ((rd l2 1) != 1) a0_0 l0_1 l0_2 l0_3 a1_0 l1_1 l1_2 l1_3) else (none)) else (impl_IsMap.j0 k l2 true a0_0 l0_1 l0_2 l0_3 a1_0 l1_1 l1_2 l1_3)) else (none)))) else (impl_IsMap.j0 k l2 true a0_0 l0_1 l0_2 l0_3 a1_0 l1_1 l1_2 l1_3)) else (impl_IsMap.j0 k l2 true a0_0 l0_1 l0_2 l0_3 a1_0 l1_1 l1_2 l1_3))) else (impl_IsMap.j0 k l2 true a0_0 l0_1 l0_2 l0_3 a1_0 l1_1 l1_2 l1_3)) = some r := H
    have A7 := Aside0.mk A70
    clear A70
    by_cases c8 : t750 = true
    · subst c8
      have H1 : ((impl_IsSystem.f k a1_0 l1_1 l1_2 l1_3).bind fun t751 => (if t751 = true then (if (l2.length : Int) = a0_0 then ((slices_ContainsFunc_int_int.f k l2 (fun z0_ => impl_IsMap_1.f z0_ a1_0 l1_1 l1_2 l1_3)).bind fun t752 => (if t752 = true then (impl_IsMap.j0 k l2 true a0_0 l0_1 l0_2 l0_3 a1_0 l1_1 l1_2 l1_3) else (if 0 < (l2.length : Int) then (if (rd l2 0) = 0 then (if 1 < (l2.length : Int) then (impl_IsMap.j0 k l2 ((rd l2 1) != 1) a0_0 l0_1 l0_2 l0_3 a1_0 l1_1 l1_2 l1_3) else (none)) else (impl_IsMap.j0 k l2 true a0_0 l0_1 l0_2 l0_3 a1_0 l1_1 l1_2 l1_3)) else (none)))) else (impl_IsMap.j0 k l2 true a0_0 l0_1 l0_2 l0_3 a1_0 l1_1 l1_2 l1_3)) else (impl_IsMap.j0 k l2 true a0_0 l0_1 l0_2 l0_3 a1_0 l1_1 l1_2 l1_3))) = some r := by rw [if_pos rfl] at H; exact H
      clear H
      have H := H1
      clear H1
      replace H := Option.bind_eq_some_iff.mp H
      obtain ⟨t751, A90, H⟩ := H
      replace H : (if t751 = true then (if (l2.length : Int) = a0_0 then ((slices_ContainsFunc_int_int.f k l2 (fun z0_ => impl_IsMap_1.f z0_ a1_0 l1_1 l1_2 l1_3)).bind fun t752 => (if t752 = true then (impl_IsMap.j0 k l2 true a0_0 l0_1 l0_2 l0_3 a1_0 l1_1 l1_2 l1_3) else (if 0 < (l2.length : Int) then (if (rd l2 0) = 0 then (if 1 < (l2.length : Int) then (impl_IsMap.j0 k l2 ((rd l2 1) != 1) a0_0 l0_1 l0_2 l0_3 a1_0 l1_1 l1_2 l1_3) else (none)) else (impl_IsMap.j0 k l2 true a0_0 l0_1 l0_2 l0_3 a1_0 l1_1 l1_2 l1_3)) else (none)))) else (impl_IsMap.j0 k l2 true a0_0 l0_1 l0_2 l0_3 a1_0 l1_1 l1_2 l1_3)) else (impl_IsMap.j0 k l2 true a0_0 l0_1 l0_2 l0_3 a1_0 l1_1 l1_2 l1_3)) = some r := H
      have A9 := Aside0.mk A90
      clear A90
      by_cases c10 : t751 = true
      · subst c10
        have H1 : (if (l2.length : Int) = a0_0 then ((slices_ContainsFunc_int_int.f k l2 (fun z0_ => impl_IsMap_1.f z0_ a1_0 l1_1 l1_2 l1_3)).bind fun t752 => (if t752 = true then (impl_IsMap.j0 k l2 true a0_0 l0_1 l0_2 l0_3 a1_0 l1_1 l1_2 l1_3) else (if 0 < (l2.length : Int) then (if (rd l2 0) = 0 then (if 1 < (l2.length : Int) then (impl_IsMap.j0 k l2 ((rd l2 1) != 1) a0_0 l0_1 l0_2 l0_3 a1_0 l1_1 l1_2 l1_3) else (none)) else (impl_IsMap.j0 k l2 true a0_0 l0_1 l0_2 l0_3 a1_0 l1_1 l1_2 l1_3)) else (none)))) else (impl_IsMap.j0 k l2 true a0_0 l0_1 l0_2 l0_3 a1_0 l1_1 l1_2 l1_3)) = some r := by rw [if_pos rfl] at H; exact H
        clear H
        have H := H1
        clear H1
        by_cases c11 : (l2.length : Int) = a0_0
        · rw [if_pos c11] at H
          have c11b0 : ((l2.length : Int) == a0_0) = true := beq_iff_eq.mpr c11
          have c11b1 : ((l2.length : Int) != a0_0) = false := bne_eq_false_iff_eq.mpr c11
          clear c11
          (first | rw [c11b0] | (simp only [i64_w, i32_w]; rw [c11b0]) | skip)
          replace H := Option.bind_eq_some_iff.mp H
          obtain ⟨t752, A120, H⟩ := H
          replace H : (if t752 = true then (impl_IsMap.j0 k l2 true a0_0 l0_1 l0_2 l0_3 a1_0 l1_1 l1_2 l1_3) else (if 0 < (l2.length : Int) then (if (rd l2 0) = 0 then (if 1 < (l2.length : Int) then (impl_IsMap.j0 k l2 ((rd l2 1) != 1) a0_0 l0_1 l0_2 l0_3 a1_0 l1_1 l1_2 l1_3) else (none)) else (impl_IsMap.j0 k l2 true a0_0 l0_1 l0_2 l0_3 a1_0 l1_1 l1_2 l1_3)) else (none))) = some r := H
          have A12 := Aside0.mk A120
          clear A120
          by_cases c13 : t752 = true
          · subst c13
            have H1 : (impl_IsMap.j0 k l2 true a0_0 l0_1 l0_2 l0_3 a1_0 l1_1 l1_2 l1_3) = some r := by rw [if_pos rfl] at H; exact H
            clear H
            have H := H1
            clear H1
            have H' := Aside0.mk H
            clear H
            have hnb14 := NB748_749.out
            have hnc14 := NB749_748.out
            have hcz15_0 : w6.cell? ⟨gb748, 0, none⟩ = some (.int .i64 a0_0) := (blk_cell BK748.out 0).trans rfl
            have hcz15_1 : w6.cell? ⟨gb748, 1, none⟩ = some (.slice A0_1 l0_1.length c0_1) := (blk_cell BK748.out 1).trans rfl
            have hcz15_2 : w6.cell? ⟨gb748, 2, none⟩ = some (.slice A0_2 l0_2.length c0_2) := (blk_cell BK748.out 2).trans rfl
            have hcz15_3 : w6.cell? ⟨gb748, 3, none⟩ = some (.slice A0_3 l0_3.length c0_3) := (blk_cell BK748.out 3).trans rfl
            have hfz15_0 := blk_frozen BK748.out 0
            have hfz15_1 := blk_frozen BK748.out 1
            have hfz15_2 := blk_frozen BK748.out 2
            have hfz15_3 := blk_frozen BK748.out 3
            go_wp2_with (first | ((with_reducible refine gate_callee (f := 18) rfl ?_); refine goesL_ (some 10) rfl rfl Try.func18 (by kernel_rfl) rfl #[.agg #[.int .i64 a0_0, .slice A0_1 l0_1.length c0_1, .slice A0_2 l0_2.length c0_2, .slice A0_3 l0_3.length c0_3]] rfl (by (try simp only [List.map_toArray, List.map_cons, List.map_nil]); first | done | rfl | (simp only [List.length_drop, List.length_take]; rfl)) ?_; (with_reducible refine (impl_IsSystem.calls k a0_0 _ _ l0_1 _ _ l0_2 _ _ l0_3 true _ ?side1 ?side2 ?side3 ?side4 ?side5 ?side6 A7.out).mono ?_); (case side1 => repeat (first | exact (Kd.C_below HR0_1.out HB.out) | (with_reducible refine Kd.C_alloc ?_ _) | (with_reducible refine Kd.C_drewN ?_ _) | (with_reducible refine Kd.C_drew ?_))); (case side2 => exact HC0_1.out); (case side3 => repeat (first | exact (Kd.C_below HR0_2.out HB.out) | (with_reducible refine Kd.C_alloc ?_ _) | (with_reducible refine Kd.C_drewN ?_ _) | (with_reducible refine Kd.C_drew ?_))); (case side4 => exact HC0_2.out); (case side5 => repeat (first | exact (Kd.C_below HR0_3.out HB.out) | (with_reducible refine Kd.C_alloc ?_ _) | (with_reducible refine Kd.C_drewN ?_ _) | (with_reducible refine Kd.C_drew ?_))); (case side6 => exact HC0_3.out); rintro e w16 ⟨rfl, hb⟩; refine ⟨_, rfl, ?_⟩; have n0_ := Aside0.mk (blk_below (g := gb748) (o := .cells #[.int .i64 a0_0, .slice A0_1 l0_1.length c0_1, .slice A0_2 l0_2.length c0_2, .slice A0_3 l0_3.length c0_3] 28 (0, 0)) (by (with_reducible repeat (first | refine blk_drewN ?_ _ | refine blk_drew ?_ | refine blk_alloc ?_ _)); exact BK748.out) hb); have n1_ := Aside0.mk (blk_below (g := gb749) (o := .cells #[.int .i64 a1_0, .slice A1_1 l1_1.length c1_1, .slice A1_2 l1_2.length c1_2, .slice A1_3 l1_3.length c1_3] 28 (0, 0)) (by (with_reducible repeat (first | refine blk_drewN ?_ _ | refine blk_drew ?_ | refine blk_alloc ?_ _)); exact BK749.out) hb); have n2_ := Aside0.mk (below_step (by repeat (first | (with_reducible first | exact HB.out | apply below_alloc | apply pw_below_drewN | apply below_drew1 | refine below_set ?_ GE748.out | refine below_set ?_ GE749.out) | exact HB.out)) hb); clear BK748; clear BK749; clear HB; have BK748 := n0_; have BK749 := n1_; have HB := n2_; clear n0_ n1_ n2_; (try clear hb); (try clear hb2); (try clear hk); (try clear hi); have hcz17_0 : w16.cell? ⟨gb749, 0, none⟩ = some (.int .i64 a1_0) := (blk_cell BK749.out 0).trans rfl; have hcz17_1 : w16.cell? ⟨gb749, 1, none⟩ = some (.slice A1_1 l1_1.length c1_1) := (blk_cell BK749.out 1).trans rfl; have hcz17_2 : w16.cell? ⟨gb749, 2, none⟩ = some (.slice A1_2 l1_2.length c1_2) := (blk_cell BK749.out 2).trans rfl; have hcz17_3 : w16.cell? ⟨gb749, 3, none⟩ = some (.slice A1_3 l1_3.length c1_3) := (blk_cell BK749.out 3).trans rfl; have hfz17_0 := blk_frozen BK749.out 0; have hfz17_1 := blk_frozen BK749.out 1; have hfz17_2 := blk_frozen BK749.out 2; have hfz17_3 := blk_frozen BK749.out 3) | (go_at_call 18; (with_reducible refine (impl_IsSystem.calls k a1_0 _ _ l1_1 _ _ l1_2 _ _ l1_3 true _ ?side1 ?side2 ?side3 ?side4 ?side5 ?side6 A9.out).mono ?_); (case side1 => repeat (first | exact (Kd.C_below HR1_1.out HB.out) | (with_reducible refine Kd.C_alloc ?_ _) | (with_reducible refine Kd.C_drewN ?_ _) | (with_reducible refine Kd.C_drew ?_))); (case side2 => exact HC1_1.out); (case side3 => repeat (first | exact (Kd.C_below HR1_2.out HB.out) | (with_reducible refine Kd.C_alloc ?_ _) | (with_reducible refine Kd.C_drewN ?_ _) | (with_reducible refine Kd.C_drew ?_))); (case side4 => exact HC1_2.out); (case side5 => repeat (first | exact (Kd.C_below HR1_3.out HB.out) | (with_reducible refine Kd.C_alloc ?_ _) | (with_reducible refine Kd.C_drewN ?_ _) | (with_reducible refine Kd.C_drew ?_))); (case side6 => exact HC1_3.out); rintro e w18 ⟨rfl, hb⟩; have n0_ := Aside0.mk (blk_below (g := gb748) (o := .cells #[.int .i64 a0_0, .slice A0_1 l0_1.length c0_1, .slice A0_2 l0_2.length c0_2, .slice A0_3 l0_3.length c0_3] 28 (0, 0)) (by (with_reducible repeat (first | refine blk_drewN ?_ _ | refine blk_drew ?_ | refine blk_alloc ?_ _)); exact BK748.out) hb); have n1_ := Aside0.mk (blk_below (g := gb749) (o := .cells #[.int .i64 a1_0, .slice A1_1 l1_1.length c1_1, .slice A1_2 l1_2.length c1_2, .slice A1_3 l1_3.length c1_3] 28 (0, 0)) (by (with_reducible repeat (first | refine blk_drewN ?_ _ | refine blk_drew ?_ | refine blk_alloc ?_ _)); exact BK749.out) hb); have n2_ := Aside0.mk (below_step (by repeat (first | (with_reducible first | exact HB.out | apply below_alloc | apply pw_below_drewN | apply below_drew1 | refine below_set ?_ GE748.out | refine below_set ?_ GE749.out) | exact HB.out)) hb); clear BK748; clear BK749; clear HB; have BK748 := n0_; have BK749 := n1_; have HB := n2_; clear n0_ n1_ n2_; (try clear hb); (try clear hb2); (try clear hk); (try clear hi); have hcz19_0 : w18.cell? ⟨gb748, 0, none⟩ = some (.int .i64 a0_0) := (blk_cell BK748.out 0).trans rfl; have hcz19_1 : w18.cell? ⟨gb748, 1, none⟩ = some (.slice A0_1 l0_1.length c0_1) := (blk_cell BK748.out 1).trans rfl; have hcz19_2 : w18.cell? ⟨gb748, 2, none⟩ = some (.slice A0_2 l0_2.length c0_2) := (blk_cell BK748.out 2).trans rfl; have hcz19_3 : w18.cell? ⟨gb748, 3, none⟩ = some (.slice A0_3 l0_3.length c0_3) := (blk_cell BK748.out 3).trans rfl; have hfz19_0 := blk_frozen BK748.out 0; have hfz19_1 := blk_frozen BK748.out 1; have hfz19_2 := blk_frozen BK748.out 2; have hfz19_3 := blk_frozen BK748.out 3) | (go_at_call 66; (with_reducible refine (slices_ContainsFunc_int_int.calls k _ _ l2 (fun z0_ => impl_IsMap_1.f z0_ a1_0 l1_1 l1_2 l1_3) 68 #[] #[.pointer (some ⟨gb749, 0, none⟩)] true _ ?side1 ?side2 ?side3 ?side4 A12.out).mono ?_); (case side1 => repeat (first | exact (Kd.C_below HR2.out HB.out) | (with_reducible refine Kd.C_alloc ?_ _) | (with_reducible refine Kd.C_drewN ?_ _) | (with_reducible refine Kd.C_drew ?_))); (case side2 => exact HC2.out); (case side3 => exact ⟨_, Try.func68, (by kernel_rfl), rfl⟩); (case side4 => intro z0_0 rr0_0 w9_0  hb9_0 h9_0; refine calls_of_args (args' := #[.int .i64 z0_0, .pointer (some ⟨gb749, 0, none⟩)]) (by first | rfl | simp) ?_; refine (impl_IsMap_1.calls z0_0 gb749 a1_0 _ _ l1_1 _ _ l1_2 _ _ l1_3 rr0_0 w9_0 (Kd.C_below (by repeat (first | exact (Kd.C_below HR1_1.out HB.out) | (with_reducible refine Kd.C_alloc ?_ _) | (with_reducible refine Kd.C_drewN ?_ _) | (with_reducible refine Kd.C_drew ?_))) hb9_0) (by exact HC1_1.out) (Kd.C_below (by repeat (first | exact (Kd.C_below HR1_2.out HB.out) | (with_reducible refine Kd.C_alloc ?_ _) | (with_reducible refine Kd.C_drewN ?_ _) | (with_reducible refine Kd.C_drew ?_))) hb9_0) (by exact HC1_2.out) (Kd.C_below (by repeat (first | exact (Kd.C_below HR1_3.out HB.out) | (with_reducible refine Kd.C_alloc ?_ _) | (with_reducible refine Kd.C_drewN ?_ _) | (with_reducible refine Kd.C_drew ?_))) hb9_0) (by exact HC1_3.out) (blk_below (by (with_reducible repeat (first | refine blk_drewN ?_ _ | refine blk_drew ?_ | refine blk_alloc ?_ _)); exact BK749.out) hb9_0) h9_0).mono ?_; exact fun _ _ h_ => h_); rintro e w20 ⟨rfl, hb⟩; have n0_ := Aside0.mk (blk_below (g := gb748) (o := .cells #[.int .i64 a0_0, .slice A0_1 l0_1.length c0_1, .slice A0_2 l0_2.length c0_2, .slice A0_3 l0_3.length c0_3] 28 (0, 0)) (by (with_reducible repeat (first | refine blk_drewN ?_ _ | refine blk_drew ?_ | refine blk_alloc ?_ _)); exact BK748.out) hb); have n1_ := Aside0.mk (blk_below (g := gb749) (o := .cells #[.int .i64 a1_0, .slice A1_1 l1_1.length c1_1, .slice A1_2 l1_2.length c1_2, .slice A1_3 l1_3.length c1_3] 28 (0, 0)) (by (with_reducible repeat (first | refine blk_drewN ?_ _ | refine blk_drew ?_ | refine blk_alloc ?_ _)); exact BK749.out) hb); have n2_ := Aside0.mk (below_step (by repeat (first | (with_reducible first | exact HB.out | apply below_alloc | apply pw_below_drewN | apply below_drew1 | refine below_set ?_ GE748.out | refine below_set ?_ GE749.out) | exact HB.out)) hb); clear BK748; clear BK749; clear HB; have BK748 := n0_; have BK749 := n1_; have HB := n2_; clear n0_ n1_ n2_; (try clear hb); (try clear hb2); (try clear hk); (try clear hi)))
            go_meet
            case rel => exact ⟨_, (true), (by first | rfl | (simp; done) | (simp [*]; done)), H', ⟨by first | omega | exact Nat.le_refl _⟩, ⟨by (with_reducible repeat (first | refine blk_drewN ?_ _ | refine blk_drew ?_ | refine blk_alloc ?_ _)); exact BK748.out⟩, ⟨by (with_reducible repeat (first | refine blk_drewN ?_ _ | refine blk_drew ?_ | refine blk_alloc ?_ _)); exact BK749.out⟩, ⟨by repeat (first | (with_reducible first | exact HB.out | apply below_alloc | apply pw_below_drewN | apply below_drew1 | refine below_set ?_ GE748.out | refine below_set ?_ GE749.out) | exact HB.out)⟩⟩
          · replace c13 := Bool.eq_false_iff.mpr c13
            subst c13
            have H1 : (if 0 < (l2.length : Int) then (if (rd l2 0) = 0 then (if 1 < (l2.length : Int) then (impl_IsMap.j0 k l2 ((rd l2 1) != 1) a0_0 l0_1 l0_2 l0_3 a1_0 l1_1 l1_2 l1_3) else (none)) else (impl_IsMap.j0 k l2 true a0_0 l0_1 l0_2 l0_3 a1_0 l1_1 l1_2 l1_3)) else (none)) = some r := by rw [if_neg (show ¬ (false = true) by decide)] at H; exact H
            clear H
            have H := H1
            clear H1
            by_cases c21 : 0 < (l2.length : Int)
            · rw [if_pos c21] at H
              have c21b0 : decide (0 < (l2.length : Int)) = true := decide_eq_true c21
              have c21b1 : decide (0 < l2.length) = true := decide_eq_true (by omega)
              clear c21
              by_cases c22 : (rd l2 0) = 0
              · rw [if_pos c22] at H
                have c22b0 : ((rd l2 0) == 0) = true := beq_iff_eq.mpr c22
                have c22b1 : ((rd l2 0) != 0) = false := bne_eq_false_iff_eq.mpr c22
                clear c22
                by_cases c23 : 1 < (l2.length : Int)
                · rw [if_pos c23] at H
                  have c23b0 : decide (1 < (l2.length : Int)) = true := decide_eq_true c23
                  have c23b1 : decide (1 < l2.length) = true := decide_eq_true (by omega)
                  clear c23
                  have H' := Aside0.mk H
                  clear H
                  have hnb24 := NB748_749.out
                  have hnc24 := NB749_748.out
                  have hcz25_0 : w6.cell? ⟨gb748, 0, none⟩ = some (.int .i64 a0_0) := (blk_cell BK748.out 0).trans rfl
                  have hcz25_1 : w6.cell? ⟨gb748, 1, none⟩ = some (.slice A0_1 l0_1.length c0_1) := (blk_cell BK748.out 1).trans rfl
                  have hcz25_2 : w6.cell? ⟨gb748, 2, none⟩ = some (.slice A0_2 l0_2.length c0_2) := (blk_cell BK748.out 2).trans rfl
                  have hcz25_3 : w6.cell? ⟨gb748, 3, none⟩ = some (.slice A0_3 l0_3.length c0_3) := (blk_cell BK748.out 3).trans rfl
                  have hfz25_0 := blk_frozen BK748.out 0
                  have hfz25_1 := blk_frozen BK748.out 1
                  have hfz25_2 := blk_frozen BK748.out 2
                  have hfz25_3 := blk_frozen BK748.out 3
                  go_wp2_with (first | ((with_reducible refine gate_callee (f := 18) rfl ?_); refine goesL_ (some 10) rfl rfl Try.func18 (by kernel_rfl) rfl #[.agg #[.int .i64 a0_0, .slice A0_1 l0_1.length c0_1, .slice A0_2 l0_2.length c0_2, .slice A0_3 l0_3.length c0_3]] rfl (by (try simp only [List.map_toArray, List.map_cons, List.map_nil]); first | done | rfl | (simp only [List.length_drop, List.length_take]; rfl)) ?_; (with_reducible refine (impl_IsSystem.calls k a0_0 _ _ l0_1 _ _ l0_2 _ _ l0_3 true _ ?side1 ?side2 ?side3 ?side4 ?side5 ?side6 A7.out).mono ?_); (case side1 => repeat (first | exact (Kd.C_below HR0_1.out HB.out) | (with_reducible refine Kd.C_alloc ?_ _) | (with_reducible refine Kd.C_drewN ?_ _) | (with_reducible refine Kd.C_drew ?_))); (case side2 => exact HC0_1.out); (case side3 => repeat (first | exact (Kd.C_below HR0_2.out HB.out) | (with_reducible refine Kd.C_alloc ?_ _) | (with_reducible refine Kd.C_drewN ?_ _) | (with_reducible refine Kd.C_drew ?_))); (case side4 => exact HC0_2.out); (case side5 => repeat (first | exact (Kd.C_below HR0_3.out HB.out) | (with_reducible refine Kd.C_alloc ?_ _) | (with_reducible refine Kd.C_drewN ?_ _) | (with_reducible refine Kd.C_drew ?_))); (case side6 => exact HC0_3.out); rintro e w26 ⟨rfl, hb⟩; refine ⟨_, rfl, ?_⟩; have n0_ := Aside0.mk (blk_below (g := gb748) (o := .cells #[.int .i64 a0_0, .slice A0_1 l0_1.length c0_1, .slice A0_2 l0_2.length c0_2, .slice A0_3 l0_3.length c0_3] 28 (0, 0)) (by (with_reducible repeat (first | refine blk_drewN ?_ _ | refine blk_drew ?_ | refine blk_alloc ?_ _)); exact BK748.out) hb); have n1_ := Aside0.mk (blk_below (g := gb749) (o := .cells #[.int .i64 a1_0, .slice A1_1 l1_1.length c1_1, .slice A1_2 l1_2.length c1_2, .slice A1_3 l1_3.length c1_3] 28 (0, 0)) (by (with_reducible repeat (first | refine blk_drewN ?_ _ | refine blk_drew ?_ | refine blk_alloc ?_ _)); exact BK749.out) hb); have n2_ := Aside0.mk (below_step (by repeat (first | (with_reducible first | exact HB.out | apply below_alloc | apply pw_below_drewN | apply below_drew1 | refine below_set ?_ GE748.out | refine below_set ?_ GE749.out) | exact HB.out)) hb); clear BK748; clear BK749; clear HB; have BK748 := n0_; have BK749 := n1_; have HB := n2_; clear n0_ n1_ n2_; (try clear hb); (try clear hb2); (try clear hk); (try clear hi); have hcz27_0 : w26.cell? ⟨gb749, 0, none⟩ = some (.int .i64 a1_0) := (blk_cell BK749.out 0).trans rfl; have hcz27_1 : w26.cell? ⟨gb749, 1, none⟩ = some (.slice A1_1 l1_1.length c1_1) := (blk_cell BK749.out 1).trans rfl; have hcz27_2 : w26.cell? ⟨gb749, 2, none⟩ = some (.slice A1_2 l1_2.length c1_2) := (blk_cell BK749.out 2).trans rfl; have hcz27_3 : w26.cell? ⟨gb749, 3, none⟩ = some (.slice A1_3 l1_3.length c1_3) := (blk_cell BK749.out 3).trans rfl; have hfz27_0 := blk_frozen BK749.out 0; have hfz27_1 := blk_frozen BK749.out 1; have hfz27_2 := blk_frozen BK749.out 2; have hfz27_3 := blk_frozen BK749.out 3) | (go_at_call 18; (with_reducible refine (impl_IsSystem.calls k a1_0 _ _ l1_1 _ _ l1_2 _ _ l1_3 true _ ?side1 ?side2 ?side3 ?side4 ?side5 ?side6 A9.out).mono ?_); (case side1 => repeat (first | exact (Kd.C_below HR1_1.out HB.out) | (with_reducible refine Kd.C_alloc ?_ _) | (with_reducible refine Kd.C_drewN ?_ _) | (with_reducible refine Kd.C_drew ?_))); (case side2 => exact HC1_1.out); (case side3 => repeat (first | exact (Kd.C_below HR1_2.out HB.out) | (with_reducible refine Kd.C_alloc ?_ _) | (with_reducible refine Kd.C_drewN ?_ _) | (with_reducible refine Kd.C_drew ?_))); (case side4 => exact HC1_2.out); (case side5 => repeat (first | exact (Kd.C_below HR1_3.out HB.out) | (with_reducible refine Kd.C_alloc ?_ _) | (with_reducible refine Kd.C_drewN ?_ _) | (with_reducible refine Kd.C_drew ?_))); (case side6 => exact HC1_3.out); rintro e w28 ⟨rfl, hb⟩; have n0_ := Aside0.mk (blk_below (g := gb748) (o := .cells #[.int .i64 a0_0, .slice A0_1 l0_1.length c0_1, .slice A0_2 l0_2.length c0_2, .slice A0_3 l0_3.length c0_3] 28 (0, 0)) (by (with_reducible repeat (first | refine blk_drewN ?_ _ | refine blk_drew ?_ | refine blk_alloc ?_ _)); exact BK748.out) hb); have n1_ := Aside0.mk (blk_below (g := gb749) (o := .cells #[.int .i64 a1_0, .slice A1_1 l1_1.length c1_1, .slice A1_2 l1_2.length c1_2, .slice A1_3 l1_3.length c1_3] 28 (0, 0)) (by (with_reducible repeat (first | refine blk_drewN ?_ _ | refine blk_drew ?_ | refine blk_alloc ?_ _)); exact BK749.out) hb); have n2_ := Aside0.mk (below_step (by repeat (first | (with_reducible first | exact HB.out | apply below_alloc | apply pw_below_drewN | apply below_drew1 | refine below_set ?_ GE748.out | refine below_set ?_ GE749.out) | exact HB.out)) hb); clear BK748; clear BK749; clear HB; have BK748 := n0_; have BK749 := n1_; have HB := n2_; clear n0_ n1_ n2_; (try clear hb); (try clear hb2); (try clear hk); (try clear hi); have hcz29_0 : w28.cell? ⟨gb748, 0, none⟩ = some (.int .i64 a0_0) := (blk_cell BK748.out 0).trans rfl; have hcz29_1 : w28.cell? ⟨gb748, 1, none⟩ = some (.slice A0_1 l0_1.length c0_1) := (blk_cell BK748.out 1).trans rfl; have hcz29_2 : w28.cell? ⟨gb748, 2, none⟩ = some (.slice A0_2 l0_2.length c0_2) := (blk_cell BK748.out 2).trans rfl; have hcz29_3 : w28.cell? ⟨gb748, 3, none⟩ = some (.slice A0_3 l0_3.length c0_3) := (blk_cell BK748.out 3).trans rfl; have hfz29_0 := blk_frozen BK748.out 0; have hfz29_1 := blk_frozen BK748.out 1; have hfz29_2 := blk_frozen BK748.out 2; have hfz29_3 := blk_frozen BK748.out 3) | (go_at_call 66; (with_reducible refine (slices_ContainsFunc_int_int.calls k _ _ l2 (fun z0_ => impl_IsMap_1.f z0_ a1_0 l1_1 l1_2 l1_3) 68 #[] #[.pointer (some ⟨gb749, 0, none⟩)] false _ ?side1 ?side2 ?side3 ?side4 A12.out).mono ?_); (case side1 => repeat (first | exact (Kd.C_below HR2.out HB.out) | (with_reducible refine Kd.C_alloc ?_ _) | (with_reducible refine Kd.C_drewN ?_ _) | (with_reducible refine Kd.C_drew ?_))); (case side2 => exact HC2.out); (case side3 => exact ⟨_, Try.func68, (by kernel_rfl), rfl⟩); (case side4 => intro z0_0 rr0_0 w9_0  hb9_0 h9_0; refine calls_of_args (args' := #[.int .i64 z0_0, .pointer (some ⟨gb749, 0, none⟩)]) (by first | rfl | simp) ?_; refine (impl_IsMap_1.calls z0_0 gb749 a1_0 _ _ l1_1 _ _ l1_2 _ _ l1_3 rr0_0 w9_0 (Kd.C_below (by repeat (first | exact (Kd.C_below HR1_1.out HB.out) | (with_reducible refine Kd.C_alloc ?_ _) | (with_reducible refine Kd.C_drewN ?_ _) | (with_reducible refine Kd.C_drew ?_))) hb9_0) (by exact HC1_1.out) (Kd.C_below (by repeat (first | exact (Kd.C_below HR1_2.out HB.out) | (with_reducible refine Kd.C_alloc ?_ _) | (with_reducible refine Kd.C_drewN ?_ _) | (with_reducible refine Kd.C_drew ?_))) hb9_0) (by exact HC1_2.out) (Kd.C_below (by repeat (first | exact (Kd.C_below HR1_3.out HB.out) | (with_reducible refine Kd.C_alloc ?_ _) | (with_reducible refine Kd.C_drewN ?_ _) | (with_reducible refine Kd.C_drew ?_))) hb9_0) (by exact HC1_3.out) (blk_below (by (with_reducible repeat (first | refine blk_drewN ?_ _ | refine blk_drew ?_ | refine blk_alloc ?_ _)); exact BK749.out) hb9_0) h9_0).mono ?_; exact fun _ _ h_ => h_); rintro e w30 ⟨rfl, hb⟩; have n0_ := Aside0.mk (blk_below (g := gb748) (o := .cells #[.int .i64 a0_0, .slice A0_1 l0_1.length c0_1, .slice A0_2 l0_2.length c0_2, .slice A0_3 l0_3.length c0_3] 28 (0, 0)) (by (with_reducible repeat (first | refine blk_drewN ?_ _ | refine blk_drew ?_ | refine blk_alloc ?_ _)); exact BK748.out) hb); have n1_ := Aside0.mk (blk_below (g := gb749) (o := .cells #[.int .i64 a1_0, .slice A1_1 l1_1.length c1_1, .slice A1_2 l1_2.length c1_2, .slice A1_3 l1_3.length c1_3] 28 (0, 0)) (by (with_reducible repeat (first | refine blk_drewN ?_ _ | refine blk_drew ?_ | refine blk_alloc ?_ _)); exact BK749.out) hb); have n2_ := Aside0.mk (below_step (by repeat (first | (with_reducible first | exact HB.out | apply below_alloc | apply pw_below_drewN | apply below_drew1 | refine below_set ?_ GE748.out | refine below_set ?_ GE749.out) | exact HB.out)) hb); clear BK748; clear BK749; clear HB; have BK748 := n0_; have BK749 := n1_; have HB := n2_; clear n0_ n1_ n2_; (try clear hb); (try clear hb2); (try clear hk); (try clear hi); have p753 : 0 ≤ (0 : Int) := (by omega); have q753 : 0 < (l2.length : Int) := of_decide_eq_true (by first | (with_reducible assumption) | assumption); obtain ⟨ad753, e753, hx753_0⟩ := Kd.at_int HR2.out 0 p753 q753; cases e753; have qi753 : (0 < l2.length) = True := eq_true (by omega); (try rw [show ((0 : Int)).toNat = 0 from rfl] at hx753_0); (try rw [Addr.add_zero'] at hx753_0); replace hx753_0 := (HB.out.cell (World.block_lt_of_cell? w _ hx753_0)).trans hx753_0; replace p753 := eq_true p753; replace q753 := eq_true q753; have p754 : 0 ≤ (1 : Int) := (by omega); have q754 : 1 < (l2.length : Int) := of_decide_eq_true (by first | (with_reducible assumption) | assumption); obtain ⟨ad754, e754, hx754_0⟩ := Kd.at_int HR2.out 1 p754 q754; obtain rfl : ad753 = ad754 := (by injection e754); (try simp only [show (1 : Int).toNat = 1 from rfl, Nat.reduceMul, Nat.reduceEqDiff, Go.Addr.add, ↓reduceIte] at hx754_0); have qi754 : (1 < l2.length) = True := eq_true (by omega); (try rw [show ((1 : Int)).toNat = 1 from rfl] at hx754_0); replace hx754_0 := (HB.out.cell (World.block_lt_of_cell? w _ hx754_0)).trans hx754_0; replace p754 := eq_true p754; replace q754 := eq_true q754))
                  go_meet
                  case rel => exact ⟨_, (((rd l2 1) != 1)), (by first | rfl | (simp; done) | (simp [*]; done)), H', ⟨by first | omega | exact Nat.le_refl _⟩, ⟨by (with_reducible repeat (first | refine blk_drewN ?_ _ | refine blk_drew ?_ | refine blk_alloc ?_ _)); exact BK748.out⟩, ⟨by (with_reducible repeat (first | refine blk_drewN ?_ _ | refine blk_drew ?_ | refine blk_alloc ?_ _)); exact BK749.out⟩, ⟨by repeat (first | (with_reducible first | exact HB.out | apply below_alloc | apply pw_below_drewN | apply below_drew1 | refine below_set ?_ GE748.out | refine below_set ?_ GE749.out) | exact HB.out)⟩⟩
                · rw [if_neg c23] at H
                  exact absurd H (by simp)
              · rw [if_neg c22] at H
                have c22b0 : ((rd l2 0) == 0) = false := beq_eq_false_iff_ne.mpr c22
                have c22b1 : ((rd l2 0) != 0) = true := bne_iff_ne.mpr c22
                have H' := Aside0.mk H
                clear H
                have hnb31 := NB748_749.out
                have hnc31 := NB749_748.out
                have hcz32_0 : w6.cell? ⟨gb748, 0, none⟩ = some (.int .i64 a0_0) := (blk_cell BK748.out 0).trans rfl
                have hcz32_1 : w6.cell? ⟨gb748, 1, none⟩ = some (.slice A0_1 l0_1.length c0_1) := (blk_cell BK748.out 1).trans rfl
                have hcz32_2 : w6.cell? ⟨gb748, 2, none⟩ = some (.slice A0_2 l0_2.length c0_2) := (blk_cell BK748.out 2).trans rfl
                have hcz32_3 : w6.cell? ⟨gb748, 3, none⟩ = some (.slice A0_3 l0_3.length c0_3) := (blk_cell BK748.out 3).trans rfl
                have hfz32_0 := blk_frozen BK748.out 0
                have hfz32_1 := blk_frozen BK748.out 1
                have hfz32_2 := blk_frozen BK748.out 2
                have hfz32_3 := blk_frozen BK748.out 3
                go_wp2_with (first | ((with_reducible refine gate_callee (f := 18) rfl ?_); refine goesL_ (some 10) rfl rfl Try.func18 (by kernel_rfl) rfl #[.agg #[.int .i64 a0_0, .slice A0_1 l0_1.length c0_1, .slice A0_2 l0_2.length c0_2, .slice A0_3 l0_3.length c0_3]] rfl (by (try simp only [List.map_toArray, List.map_cons, List.map_nil]); first | done | rfl | (simp only [List.length_drop, List.length_take]; rfl)) ?_; (with_reducible refine (impl_IsSystem.calls k a0_0 _ _ l0_1 _ _ l0_2 _ _ l0_3 true _ ?side1 ?side2 ?side3 ?side4 ?side5 ?side6 A7.out).mono ?_); (case side1 => repeat (first | exact (Kd.C_below HR0_1.out HB.out) | (with_reducible refine Kd.C_alloc ?_ _) | (with_reducible refine Kd.C_drewN ?_ _) | (with_reducible refine Kd.C_drew ?_))); (case side2 => exact HC0_1.out); (case side3 => repeat (first | exact (Kd.C_below HR0_2.out HB.out) | (with_reducible refine Kd.C_alloc ?_ _) | (with_reducible refine Kd.C_drewN ?_ _) | (with_reducible refine Kd.C_drew ?_))); (case side4 => exact HC0_2.out); (case side5 => repeat (first | exact (Kd.C_below HR0_3.out HB.out) | (with_reducible refine Kd.C_alloc ?_ _) | (with_reducible refine Kd.C_drewN ?_ _) | (with_reducible refine Kd.C_drew ?_))); (case side6 => exact HC0_3.out); rintro e w33 ⟨rfl, hb⟩; refine ⟨_, rfl, ?_⟩; have n0_ := Aside0.mk (blk_below (g := gb748) (o := .cells #[.int .i64 a0_0, .slice A0_1 l0_1.length c0_1, .slice A0_2 l0_2.length c0_2, .slice A0_3 l0_3.length c0_3] 28 (0, 0)) (by (with_reducible repeat (first | refine blk_drewN ?_ _ | refine blk_drew ?_ | refine blk_alloc ?_ _)); exact BK748.out) hb); have n1_ := Aside0.mk (blk_below (g := gb749) (o := .cells #[.int .i64 a1_0, .slice A1_1 l1_1.length c1_1, .slice A1_2 l1_2.length c1_2, .slice A1_3 l1_3.length c1_3] 28 (0, 0)) (by (with_reducible repeat (first | refine blk_drewN ?_ _ | refine blk_drew ?_ | refine blk_alloc ?_ _)); exact BK749.out) hb); have n2_ := Aside0.mk (below_step (by repeat (first | (with_reducible first | exact HB.out | apply below_alloc | apply pw_below_drewN | apply below_drew1 | refine below_set ?_ GE748.out | refine below_set ?_ GE749.out) | exact HB.out)) hb); clear BK748; clear BK749; clear HB; have BK748 := n0_; have BK749 := n1_; have HB := n2_; clear n0_ n1_ n2_; (try clear hb); (try clear hb2); (try clear hk); (try clear hi); have hcz34_0 : w33.cell? ⟨gb749, 0, none⟩ = some (.int .i64 a1_0) := (blk_cell BK749.out 0).trans rfl; have hcz34_1 : w33.cell? ⟨gb749, 1, none⟩ = some (.slice A1_1 l1_1.length c1_1) := (blk_cell BK749.out 1).trans rfl; have hcz34_2 : w33.cell? ⟨gb749, 2, none⟩ = some (.slice A1_2 l1_2.length c1_2) := (blk_cell BK749.out 2).trans rfl; have hcz34_3 : w33.cell? ⟨gb749, 3, none⟩ = some (.slice A1_3 l1_3.length c1_3) := (blk_cell BK749.out 3).trans rfl; have hfz34_0 := blk_frozen BK749.out 0; have hfz34_1 := blk_frozen BK749.out 1; have hfz34_2 := blk_frozen BK749.out 2; have hfz34_3 := blk_frozen BK749.out 3) | (go_at_call 18; (with_reducible refine (impl_IsSystem.calls k a1_0 _ _ l1_1 _ _ l1_2 _ _ l1_3 true _ ?side1 ?side2 ?side3 ?side4 ?side5 ?side6 A9.out).mono ?_); (case side1 => repeat (first | exact (Kd.C_below HR1_1.out HB.out) | (with_reducible refine Kd.C_alloc ?_ _) | (with_reducible refine Kd.C_drewN ?_ _) | (with_reducible refine Kd.C_drew ?_))); (case side2 => exact HC1_1.out); (case side3 => repeat (first | exact (Kd.C_below HR1_2.out HB.out) | (with_reducible refine Kd.C_alloc ?_ _) | (with_reducible refine Kd.C_drewN ?_ _) | (with_reducible refine Kd.C_drew ?_))); (case side4 => exact HC1_2.out); (case side5 => repeat (first | exact (Kd.C_below HR1_3.out HB.out) | (with_reducible refine Kd.C_alloc ?_ _) | (with_reducible refine Kd.C_drewN ?_ _) | (with_reducible refine Kd.C_drew ?_))); (case side6 => exact HC1_3.out); rintro e w35 ⟨rfl, hb⟩; have n0_ := Aside0.mk (blk_below (g := gb748) (o := .cells #[.int .i64 a0_0, .slice A0_1 l0_1.length c0_1, .slice A0_2 l0_2.length c0_2, .slice A0_3 l0_3.length c0_3] 28 (0, 0)) (by (with_reducible repeat (first | refine blk_drewN ?_ _ | refine blk_drew ?_ | refine blk_alloc ?_ _)); exact BK748.out) hb); have n1_ := Aside0.mk (blk_below (g := gb749) (o := .cells #[.int .i64 a1_0, .slice A1_1 l1_1.length c1_1, .slice A1_2 l1_2.length c1_2, .slice A1_3 l1_3.length c1_3] 28 (0, 0)) (by (with_reducible repeat (first | refine blk_drewN ?_ _ | refine blk_drew ?_ | refine blk_alloc ?_ _)); exact BK749.out) hb); have n2_ := Aside0.mk (below_step (by repeat (first | (with_reducible first | exact HB.out | apply below_alloc | apply pw_below_drewN | apply below_drew1 | refine below_set ?_ GE748.out | refine below_set ?_ GE749.out) | exact HB.out)) hb); clear BK748; clear BK749; clear HB; have BK748 := n0_; have BK749 := n1_; have HB := n2_; clear n0_ n1_ n2_; (try clear hb); (try clear hb2); (try clear hk); (try clear hi); have hcz36_0 : w35.cell? ⟨gb748, 0, none⟩ = some (.int .i64 a0_0) := (blk_cell BK748.out 0).trans rfl; have hcz36_1 : w35.cell? ⟨gb748, 1, none⟩ = some (.slice A0_1 l0_1.length c0_1) := (blk_cell BK748.out 1).trans rfl; have hcz36_2 : w35.cell? ⟨gb748, 2, none⟩ = some (.slice A0_2 l0_2.length c0_2) := (blk_cell BK748.out 2).trans rfl; have hcz36_3 : w35.cell? ⟨gb748, 3, none⟩ = some (.slice A0_3 l0_3.length c0_3) := (blk_cell BK748.out 3).trans rfl; have hfz36_0 := blk_frozen BK748.out 0; have hfz36_1 := blk_frozen BK748.out 1; have hfz36_2 := blk_frozen BK748.out 2; have hfz36_3 := blk_frozen BK748.out 3) | (go_at_call 66; (with_reducible refine (slices_ContainsFunc_int_int.calls k _ _ l2 (fun z0_ => impl_IsMap_1.f z0_ a1_0 l1_1 l1_2 l1_3) 68 #[] #[.pointer (some ⟨gb749, 0, none⟩)] false _ ?side1 ?side2 ?side3 ?side4 A12.out).mono ?_); (case side1 => repeat (first | exact (Kd.C_below HR2.out HB.out) | (with_reducible refine Kd.C_alloc ?_ _) | (with_reducible refine Kd.C_drewN ?_ _) | (with_reducible refine Kd.C_drew ?_))); (case side2 => exact HC2.out); (case side3 => exact ⟨_, Try.func68, (by kernel_rfl), rfl⟩); (case side4 => intro z0_0 rr0_0 w9_0  hb9_0 h9_0; refine calls_of_args (args' := #[.int .i64 z0_0, .pointer (some ⟨gb749, 0, none⟩)]) (by first | rfl | simp) ?_; refine (impl_IsMap_1.calls z0_0 gb749 a1_0 _ _ l1_1 _ _ l1_2 _ _ l1_3 rr0_0 w9_0 (Kd.C_below (by repeat (first | exact (Kd.C_below HR1_1.out HB.out) | (with_reducible refine Kd.C_alloc ?_ _) | (with_reducible refine Kd.C_drewN ?_ _) | (with_reducible refine Kd.C_drew ?_))) hb9_0) (by exact HC1_1.out) (Kd.C_below (by repeat (first | exact (Kd.C_below HR1_2.out HB.out) | (with_reducible refine Kd.C_alloc ?_ _) | (with_reducible refine Kd.C_drewN ?_ _) | (with_reducible refine Kd.C_drew ?_))) hb9_0) (by exact HC1_2.out) (Kd.C_below (by repeat (first | exact (Kd.C_below HR1_3.out HB.out) | (with_reducible refine Kd.C_alloc ?_ _) | (with_reducible refine Kd.C_drewN ?_ _) | (with_reducible refine Kd.C_drew ?_))) hb9_0) (by exact HC1_3.out) (blk_below (by (with_reducible repeat (first | refine blk_drewN ?_ _ | refine blk_drew ?_ | refine blk_alloc ?_ _)); exact BK749.out) hb9_0) h9_0).mono ?_; exact fun _ _ h_ => h_); rintro e w37 ⟨rfl, hb⟩; have n0_ := Aside0.mk (blk_below (g := gb748) (o := .cells #[.int .i64 a0_0, .slice A0_1 l0_1.length c0_1, .slice A0_2 l0_2.length c0_2, .slice A0_3 l0_3.length c0_3] 28 (0, 0)) (by (with_reducible repeat (first | refine blk_drewN ?_ _ | refine blk_drew ?_ | refine blk_alloc ?_ _)); exact BK748.out) hb); have n1_ := Aside0.mk (blk_below (g := gb749) (o := .cells #[.int .i64 a1_0, .slice A1_1 l1_1.length c1_1, .slice A1_2 l1_2.length c1_2, .slice A1_3 l1_3.length c1_3] 28 (0, 0)) (by (with_reducible repeat (first | refine blk_drewN ?_ _ | refine blk_drew ?_ | refine blk_alloc ?_ _)); exact BK749.out) hb); have n2_ := Aside0.mk (below_step (by repeat (first | (with_reducible first | exact HB.out | apply below_alloc | apply pw_below_drewN | apply below_drew1 | refine below_set ?_ GE748.out | refine below_set ?_ GE749.out) | exact HB.out)) hb); clear BK748; clear BK749; clear HB; have BK748 := n0_; have BK749 := n1_; have HB := n2_; clear n0_ n1_ n2_; (try clear hb); (try clear hb2); (try clear hk); (try clear hi); have p753 : 0 ≤ (0 : Int) := (by omega); have q753 : 0 < (l2.length : Int) := of_decide_eq_true (by first | (with_reducible assumption) | assumption); obtain ⟨ad753, e753, hx753_0⟩ := Kd.at_int HR2.out 0 p753 q753; cases e753; have qi753 : (0 < l2.length) = True := eq_true (by omega); (try rw [show ((0 : Int)).toNat = 0 from rfl] at hx753_0); (try rw [Addr.add_zero'] at hx753_0); replace hx753_0 := (HB.out.cell (World.block_lt_of_cell? w _ hx753_0)).trans hx753_0; replace p753 := eq_true p753; replace q753 := eq_true q753))
                go_meet
                case rel => exact ⟨_, (true), (by first | rfl | (simp; done) | (simp [*]; done)), H', ⟨by first | omega | exact Nat.le_refl _⟩, ⟨by (with_reducible repeat (first | refine blk_drewN ?_ _ | refine blk_drew ?_ | refine blk_alloc ?_ _)); exact BK748.out⟩, ⟨by (with_reducible repeat (first | refine blk_drewN ?_ _ | refine blk_drew ?_ | refine blk_alloc ?_ _)); exact BK749.out⟩, ⟨by repeat (first | (with_reducible first | exact HB.out | apply below_alloc | apply pw_below_drewN | apply below_drew1 | refine below_set ?_ GE748.out | refine below_set ?_ GE749.out) | exact HB.out)⟩⟩
            · rw [if_neg c21] at H
              exact absurd H (by simp)
        · rw [if_neg c11] at H
          have c11b0 : ((l2.length : Int) == a0_0) = false := beq_eq_false_iff_ne.mpr c11
          have c11b1 : ((l2.length : Int) != a0_0) = true := bne_iff_ne.mpr c11
          (first | rw [c11b0] | (simp only [i64_w, i32_w]; rw [c11b0]) | skip)
          have H' := Aside0.mk H
          clear H
          have hnb38 := NB748_749.out
          have hnc38 := NB749_748.out
          have hcz39_0 : w6.cell? ⟨gb748, 0, none⟩ = some (.int .i64 a0_0) := (blk_cell BK748.out 0).trans rfl
          have hcz39_1 : w6.cell? ⟨gb748, 1, none⟩ = some (.slice A0_1 l0_1.length c0_1) := (blk_cell BK748.out 1).trans rfl
          have hcz39_2 : w6.cell? ⟨gb748, 2, none⟩ = some (.slice A0_2 l0_2.length c0_2) := (blk_cell BK748.out 2).trans rfl
          have hcz39_3 : w6.cell? ⟨gb748, 3, none⟩ = some (.slice A0_3 l0_3.length c0_3) := (blk_cell BK748.out 3).trans rfl
          have hfz39_0 := blk_frozen BK748.out 0
          have hfz39_1 := blk_frozen BK748.out 1
          have hfz39_2 := blk_frozen BK748.out 2
          have hfz39_3 := blk_frozen BK748.out 3
          go_wp2_with (first | ((with_reducible refine gate_callee (f := 18) rfl ?_); refine goesL_ (some 10) rfl rfl Try.func18 (by kernel_rfl) rfl #[.agg #[.int .i64 a0_0, .slice A0_1 l0_1.length c0_1, .slice A0_2 l0_2.length c0_2, .slice A0_3 l0_3.length c0_3]] rfl (by (try simp only [List.map_toArray, List.map_cons, List.map_nil]); first | done | rfl | (simp only [List.length_drop, List.length_take]; rfl)) ?_; (with_reducible refine (impl_IsSystem.calls k a0_0 _ _ l0_1 _ _ l0_2 _ _ l0_3 true _ ?side1 ?side2 ?side3 ?side4 ?side5 ?side6 A7.out).mono ?_); (case side1 => repeat (first | exact (Kd.C_below HR0_1.out HB.out) | (with_reducible refine Kd.C_alloc ?_ _) | (with_reducible refine Kd.C_drewN ?_ _) | (with_reducible refine Kd.C_drew ?_))); (case side2 => exact HC0_1.out); (case side3 => repeat (first | exact (Kd.C_below HR0_2.out HB.out) | (with_reducible refine Kd.C_alloc ?_ _) | (with_reducible refine Kd.C_drewN ?_ _) | (with_reducible refine Kd.C_drew ?_))); (case side4 => exact HC0_2.out); (case side5 => repeat (first | exact (Kd.C_below HR0_3.out HB.out) | (with_reducible refine Kd.C_alloc ?_ _) | (with_reducible refine Kd.C_drewN ?_ _) | (with_reducible refine Kd.C_drew ?_))); (case side6 => exact HC0_3.out); rintro e w40 ⟨rfl, hb⟩; refine ⟨_, rfl, ?_⟩; have n0_ := Aside0.mk (blk_below (g := gb748) (o := .cells #[.int .i64 a0_0, .slice A0_1 l0_1.length c0_1, .slice A0_2 l0_2.length c0_2, .slice A0_3 l0_3.length c0_3] 28 (0, 0)) (by (with_reducible repeat (first | refine blk_drewN ?_ _ | refine blk_drew ?_ | refine blk_alloc ?_ _)); exact BK748.out) hb); have n1_ := Aside0.mk (blk_below (g := gb749) (o := .cells #[.int .i64 a1_0, .slice A1_1 l1_1.length c1_1, .slice A1_2 l1_2.length c1_2, .slice A1_3 l1_3.length c1_3] 28 (0, 0)) (by (with_reducible repeat (first | refine blk_drewN ?_ _ | refine blk_drew ?_ | refine blk_alloc ?_ _)); exact BK749.out) hb); have n2_ := Aside0.mk (below_step (by repeat (first | (with_reducible first | exact HB.out | apply below_alloc | apply pw_below_drewN | apply below_drew1 | refine below_set ?_ GE748.out | refine below_set ?_ GE749.out) | exact HB.out)) hb); clear BK748; clear BK749; clear HB; have BK748 := n0_; have BK749 := n1_; have HB := n2_; clear n0_ n1_ n2_; (try clear hb); (try clear hb2); (try clear hk); (try clear hi); have hcz41_0 : w40.cell? ⟨gb749, 0, none⟩ = some (.int .i64 a1_0) := (blk_cell BK749.out 0).trans rfl; have hcz41_1 : w40.cell? ⟨gb749, 1, none⟩ = some (.slice A1_1 l1_1.length c1_1) := (blk_cell BK749.out 1).trans rfl; have hcz41_2 : w40.cell? ⟨gb749, 2, none⟩ = some (.slice A1_2 l1_2.length c1_2) := (blk_cell BK749.out 2).trans rfl; have hcz41_3 : w40.cell? ⟨gb749, 3, none⟩ = some (.slice A1_3 l1_3.length c1_3) := (blk_cell BK749.out 3).trans rfl; have hfz41_0 := blk_frozen BK749.out 0; have hfz41_1 := blk_frozen BK749.out 1; have hfz41_2 := blk_frozen BK749.out 2; have hfz41_3 := blk_frozen BK749.out 3) | (go_at_call 18; (with_reducible refine (impl_IsSystem.calls k a1_0 _ _ l1_1 _ _ l1_2 _ _ l1_3 true _ ?side1 ?side2 ?side3 ?side4 ?side5 ?side6 A9.out).mono ?_); (case side1 => repeat (first | exact (Kd.C_below HR1_1.out HB.out) | (with_reducible refine Kd.C_alloc ?_ _) | (with_reducible refine Kd.C_drewN ?_ _) | (with_reducible refine Kd.C_drew ?_))); (case side2 => exact HC1_1.out); (case side3 => repeat (first | exact (Kd.C_below HR1_2.out HB.out) | (with_reducible refine Kd.C_alloc ?_ _) | (with_reducible refine Kd.C_drewN ?_ _) | (with_reducible refine Kd.C_drew ?_))); (case side4 => exact HC1_2.out); (case side5 => repeat (first | exact (Kd.C_below HR1_3.out HB.out) | (with_reducible refine Kd.C_alloc ?_ _) | (with_reducible refine Kd.C_drewN ?_ _) | (with_reducible refine Kd.C_drew ?_))); (case side6 => exact HC1_3.out); rintro e w42 ⟨rfl, hb⟩; have n0_ := Aside0.mk (blk_below (g := gb748) (o := .cells #[.int .i64 a0_0, .slice A0_1 l0_1.length c0_1, .slice A0_2 l0_2.length c0_2, .slice A0_3 l0_3.length c0_3] 28 (0, 0)) (by (with_reducible repeat (first | refine blk_drewN ?_ _ | refine blk_drew ?_ | refine blk_alloc ?_ _)); exact BK748.out) hb); have n1_ := Aside0.mk (blk_below (g := gb749) (o := .cells #[.int .i64 a1_0, .slice A1_1 l1_1.length c1_1, .slice A1_2 l1_2.length c1_2, .slice A1_3 l1_3.length c1_3] 28 (0, 0)) (by (with_reducible repeat (first | refine blk_drewN ?_ _ | refine blk_drew ?_ | refine blk_alloc ?_ _)); exact BK749.out) hb); have n2_ := Aside0.mk (below_step (by repeat (first | (with_reducible first | exact HB.out | apply below_alloc | apply pw_below_drewN | apply below_drew1 | refine below_set ?_ GE748.out | refine below_set ?_ GE749.out) | exact HB.out)) hb); clear BK748; clear BK749; clear HB; have BK748 := n0_; have BK749 := n1_; have HB := n2_; clear n0_ n1_ n2_; (try clear hb); (try clear hb2); (try clear hk); (try clear hi); have hcz43_0 : w42.cell? ⟨gb748, 0, none⟩ = some (.int .i64 a0_0) := (blk_cell BK748.out 0).trans rfl; have hcz43_1 : w42.cell? ⟨gb748, 1, none⟩ = some (.slice A0_1 l0_1.length c0_1) := (blk_cell BK748.out 1).trans rfl; have hcz43_2 : w42.cell? ⟨gb748, 2, none⟩ = some (.slice A0_2 l0_2.length c0_2) := (blk_cell BK748.out 2).trans rfl; have hcz43_3 : w42.cell? ⟨gb748, 3, none⟩ = some (.slice A0_3 l0_3.length c0_3) := (blk_cell BK748.out 3).trans rfl; have hfz43_0 := blk_frozen BK748.out 0; have hfz43_1 := blk_frozen BK748.out 1; have hfz43_2 := blk_frozen BK748.out 2; have hfz43_3 := blk_frozen BK748.out 3))
          go_meet
          case rel => exact ⟨_, (true), (by first | rfl | (simp; done) | (simp [*]; done)), H', ⟨by first | omega | exact Nat.le_refl _⟩, ⟨by (with_reducible repeat (first | refine blk_drewN ?_ _ | refine blk_drew ?_ | refine blk_alloc ?_ _)); exact BK748.out⟩, ⟨by (with_reducible repeat (first | refine blk_drewN ?_ _ | refine blk_drew ?_ | refine blk_alloc ?_ _)); exact BK749.out⟩, ⟨by repeat (first | (with_reducible first | exact HB.out | apply below_alloc | apply pw_below_drewN | apply below_drew1 | refine below_set ?_ GE748.out | refine below_set ?_ GE749.out) | exact HB.out)⟩⟩
      · replace c10 := Bool.eq_false_iff.mpr c10
        subst c10
        have H1 : (impl_IsMap.j0 k l2 true a0_0 l0_1 l0_2 l0_3 a1_0 l1_1 l1_2 l1_3) = some r := by rw [if_neg (show ¬ (false = true) by decide)] at H; exact H
        clear H
        have H := H1
        clear H1
        have H' := Aside0.mk H
        clear H
        have hnb44 := NB748_749.out
        have hnc44 := NB749_748.out
        have hcz45_0 : w6.cell? ⟨gb748, 0, none⟩ = some (.int .i64 a0_0) := (blk_cell BK748.out 0).trans rfl
        have hcz45_1 : w6.cell? ⟨gb748, 1, none⟩ = some (.slice A0_1 l0_1.length c0_1) := (blk_cell BK748.out 1).trans rfl
        have hcz45_2 : w6.cell? ⟨gb748, 2, none⟩ = some (.slice A0_2 l0_2.length c0_2) := (blk_cell BK748.out 2).trans rfl
        have hcz45_3 : w6.cell? ⟨gb748, 3, none⟩ = some (.slice A0_3 l0_3.length c0_3) := (blk_cell BK748.out 3).trans rfl
        have hfz45_0 := blk_frozen BK748.out 0
        have hfz45_1 := blk_frozen BK748.out 1
        have hfz45_2 := blk_frozen BK748.out 2
        have hfz45_3 := blk_frozen BK748.out 3
        go_wp2_with (first | ((with_reducible refine gate_callee (f := 18) rfl ?_); refine goesL_ (some 10) rfl rfl Try.func18 (by kernel_rfl) rfl #[.agg #[.int .i64 a0_0, .slice A0_1 l0_1.length c0_1, .slice A0_2 l0_2.length c0_2, .slice A0_3 l0_3.length c0_3]] rfl (by (try simp only [List.map_toArray, List.map_cons, List.map_nil]); first | done | rfl | (simp only [List.length_drop, List.length_take]; rfl)) ?_; (with_reducible refine (impl_IsSystem.calls k a0_0 _ _ l0_1 _ _ l0_2 _ _ l0_3 true _ ?side1 ?side2 ?side3 ?side4 ?side5 ?side6 A7.out).mono ?_); (case side1 => repeat (first | exact (Kd.C_below HR0_1.out HB.out) | (with_reducible refine Kd.C_alloc ?_ _) | (with_reducible refine Kd.C_drewN ?_ _) | (with_reducible refine Kd.C_drew ?_))); (case side2 => exact HC0_1.out); (case side3 => repeat (first | exact (Kd.C_below HR0_2.out HB.out) | (with_reducible refine Kd.C_alloc ?_ _) | (with_reducible refine Kd.C_drewN ?_ _) | (with_reducible refine Kd.C_drew ?_))); (case side4 => exact HC0_2.out); (case side5 => repeat (first | exact (Kd.C_below HR0_3.out HB.out) | (with_reducible refine Kd.C_alloc ?_ _) | (with_reducible refine Kd.C_drewN ?_ _) | (with_reducible refine Kd.C_drew ?_))); (case side6 => exact HC0_3.out); rintro e w46 ⟨rfl, hb⟩; refine ⟨_, rfl, ?_⟩; have n0_ := Aside0.mk (blk_below (g := gb748) (o := .cells #[.int .i64 a0_0, .slice A0_1 l0_1.length c0_1, .slice A0_2 l0_2.length c0_2, .slice A0_3 l0_3.length c0_3] 28 (0, 0)) (by (with_reducible repeat (first | refine blk_drewN ?_ _ | refine blk_drew ?_ | refine blk_alloc ?_ _)); exact BK748.out) hb); have n1_ := Aside0.mk (blk_below (g := gb749) (o := .cells #[.int .i64 a1_0, .slice A1_1 l1_1.length c1_1, .slice A1_2 l1_2.length c1_2, .slice A1_3 l1_3.length c1_3] 28 (0, 0)) (by (with_reducible repeat (first | refine blk_drewN ?_ _ | refine blk_drew ?_ | refine blk_alloc ?_ _)); exact BK749.out) hb); have n2_ := Aside0.mk (below_step (by repeat (first | (with_reducible first | exact HB.out | apply below_alloc | apply pw_below_drewN | apply below_drew1 | refine below_set ?_ GE748.out | refine below_set ?_ GE749.out) | exact HB.out)) hb); clear BK748; clear BK749; clear HB; have BK748 := n0_; have BK749 := n1_; have HB := n2_; clear n0_ n1_ n2_; (try clear hb); (try clear hb2); (try clear hk); (try clear hi); have hcz47_0 : w46.cell? ⟨gb749, 0, none⟩ = some (.int .i64 a1_0) := (blk_cell BK749.out 0).trans rfl; have hcz47_1 : w46.cell? ⟨gb749, 1, none⟩ = some (.slice A1_1 l1_1.length c1_1) := (blk_cell BK749.out 1).trans rfl; have hcz47_2 : w46.cell? ⟨gb749, 2, none⟩ = some (.slice A1_2 l1_2.length c1_2) := (blk_cell BK749.out 2).trans rfl; have hcz47_3 : w46.cell? ⟨gb749, 3, none⟩ = some (.slice A1_3 l1_3.length c1_3) := (blk_cell BK749.out 3).trans rfl; have hfz47_0 := blk_frozen BK749.out 0; have hfz47_1 := blk_frozen BK749.out 1; have hfz47_2 := blk_frozen BK749.out 2; have hfz47_3 := blk_frozen BK749.out 3) | (go_at_call 18; (with_reducible refine (impl_IsSystem.calls k a1_0 _ _ l1_1 _ _ l1_2 _ _ l1_3 false _ ?side1 ?side2 ?side3 ?side4 ?side5 ?side6 A9.out).mono ?_); (case side1 => repeat (first | exact (Kd.C_below HR1_1.out HB.out) | (with_reducible refine Kd.C_alloc ?_ _) | (with_reducible refine Kd.C_drewN ?_ _) | (with_reducible refine Kd.C_drew ?_))); (case side2 => exact HC1_1.out); (case side3 => repeat (first | exact (Kd.C_below HR1_2.out HB.out) | (with_reducible refine Kd.C_alloc ?_ _) | (with_reducible refine Kd.C_drewN ?_ _) | (with_reducible refine Kd.C_drew ?_))); (case side4 => exact HC1_2.out); (case side5 => repeat (first | exact (Kd.C_below HR1_3.out HB.out) | (with_reducible refine Kd.C_alloc ?_ _) | (with_reducible refine Kd.C_drewN ?_ _) | (with_reducible refine Kd.C_drew ?_))); (case side6 => exact HC1_3.out); rintro e w48 ⟨rfl, hb⟩; have n0_ := Aside0.mk (blk_below (g := gb748) (o := .cells #[.int .i64 a0_0, .slice A0_1 l0_1.length c0_1, .slice A0_2 l0_2.length c0_2, .slice A0_3 l0_3.length c0_3] 28 (0, 0)) (by (with_reducible repeat (first | refine blk_drewN ?_ _ | refine blk_drew ?_ | refine blk_alloc ?_ _)); exact BK748.out) hb); have n1_ := Aside0.mk (blk_below (g := gb749) (o := .cells #[.int .i64 a1_0, .slice A1_1 l1_1.length c1_1, .slice A1_2 l1_2.length c1_2, .slice A1_3 l1_3.length c1_3] 28 (0, 0)) (by (with_reducible repeat (first | refine blk_drewN ?_ _ | refine blk_drew ?_ | refine blk_alloc ?_ _)); exact BK749.out) hb); have n2_ := Aside0.mk (below_step (by repeat (first | (with_reducible first | exact HB.out | apply below_alloc | apply pw_below_drewN | apply below_drew1 | refine below_set ?_ GE748.out | refine below_set ?_ GE749.out) | exact HB.out)) hb); clear BK748; clear BK749; clear HB; have BK748 := n0_; have BK749 := n1_; have HB := n2_; clear n0_ n1_ n2_; (try clear hb); (try clear hb2); (try clear hk); (try clear hi)))
        go_meet
        case rel => exact ⟨_, (true), (by first | rfl | (simp; done) | (simp [*]; done)), H', ⟨by first | omega | exact Nat.le_refl _⟩, ⟨by (with_reducible repeat (first | refine blk_drewN ?_ _ | refine blk_drew ?_ | refine blk_alloc ?_ _)); exact BK748.out⟩, ⟨by (with_reducible repeat (first | refine blk_drewN ?_ _ | refine blk_drew ?_ | refine blk_alloc ?_ _)); exact BK749.out⟩, ⟨by repeat (first | (with_reducible first | exact HB.out | apply below_alloc | apply pw_below_drewN | apply below_drew1 | refine below_set ?_ GE748.out | refine below_set ?_ GE749.out) | exact HB.out)⟩⟩
    · replace c8 := Bool.eq_false_iff.mpr c8
      subst c8
      have H1 : (impl_IsMap.j0 k l2 true a0_0 l0_1 l0_2 l0_3 a1_0 l1_1 l1_2 l1_3) = some r := by rw [if_neg (show ¬ (false = true) by decide)] at H; exact H
      clear H
      have H := H1
      clear H1
      have H' := Aside0.mk H
      clear H
      have hnb49 := NB748_749.out
      have hnc49 := NB749_748.out
      have hcz50_0 : w6.cell? ⟨gb748, 0, none⟩ = some (.int .i64 a0_0) := (blk_cell BK748.out 0).trans rfl
      have hcz50_1 : w6.cell? ⟨gb748, 1, none⟩ = some (.slice A0_1 l0_1.length c0_1) := (blk_cell BK748.out 1).trans rfl
      have hcz50_2 : w6.cell? ⟨gb748, 2, none⟩ = some (.slice A0_2 l0_2.length c0_2) := (blk_cell BK748.out 2).trans rfl
      have hcz50_3 : w6.cell? ⟨gb748, 3, none⟩ = some (.slice A0_3 l0_3.length c0_3) := (blk_cell BK748.out 3).trans rfl
      have hfz50_0 := blk_frozen BK748.out 0
      have hfz50_1 := blk_frozen BK748.out 1
      have hfz50_2 := blk_frozen BK748.out 2
      have hfz50_3 := blk_frozen BK748.out 3
      go_wp2_with (first | ((with_reducible refine gate_callee (f := 18) rfl ?_); refine goesL_ (some 10) rfl rfl Try.func18 (by kernel_rfl) rfl #[.agg #[.int .i64 a0_0, .slice A0_1 l0_1.length c0_1, .slice A0_2 l0_2.length c0_2, .slice A0_3 l0_3.length c0_3]] rfl (by (try simp only [List.map_toArray, List.map_cons, List.map_nil]); first | done | rfl | (simp only [List.length_drop, List.length_take]; rfl)) ?_; (with_reducible refine (impl_IsSystem.calls k a0_0 _ _ l0_1 _ _ l0_2 _ _ l0_3 false _ ?side1 ?side2 ?side3 ?side4 ?side5 ?side6 A7.out).mono ?_); (case side1 => repeat (first | exact (Kd.C_below HR0_1.out HB.out) | (with_reducible refine Kd.C_alloc ?_ _) | (with_reducible refine Kd.C_drewN ?_ _) | (with_reducible refine Kd.C_drew ?_))); (case side2 => exact HC0_1.out); (case side3 => repeat (first | exact (Kd.C_below HR0_2.out HB.out) | (with_reducible refine Kd.C_alloc ?_ _) | (with_reducible refine Kd.C_drewN ?_ _) | (with_reducible refine Kd.C_drew ?_))); (case side4 => exact HC0_2.out); (case side5 => repeat (first | exact (Kd.C_below HR0_3.out HB.out) | (with_reducible refine Kd.C_alloc ?_ _) | (with_reducible refine Kd.C_drewN ?_ _) | (with_reducible refine Kd.C_drew ?_))); (case side6 => exact HC0_3.out); rintro e w51 ⟨rfl, hb⟩; refine ⟨_, rfl, ?_⟩; have n0_ := Aside0.mk (blk_below (g := gb748) (o := .cells #[.int .i64 a0_0, .slice A0_1 l0_1.length c0_1, .slice A0_2 l0_2.length c0_2, .slice A0_3 l0_3.length c0_3] 28 (0, 0)) (by (with_reducible repeat (first | refine blk_drewN ?_ _ | refine blk_drew ?_ | refine blk_alloc ?_ _)); exact BK748.out) hb); have n1_ := Aside0.mk (blk_below (g := gb749) (o := .cells #[.int .i64 a1_0, .slice A1_1 l1_1.length c1_1, .slice A1_2 l1_2.length c1_2, .slice A1_3 l1_3.length c1_3] 28 (0, 0)) (by (with_reducible repeat (first | refine blk_drewN ?_ _ | refine blk_drew ?_ | refine blk_alloc ?_ _)); exact BK749.out) hb); have n2_ := Aside0.mk (below_step (by repeat (first | (with_reducible first | exact HB.out | apply below_alloc | apply pw_below_drewN | apply below_drew1 | refine below_set ?_ GE748.out | refine below_set ?_ GE749.out) | exact HB.out)) hb); clear BK748; clear BK749; clear HB; have BK748 := n0_; have BK749 := n1_; have HB := n2_; clear n0_ n1_ n2_; (try clear hb); (try clear hb2); (try clear hk); (try clear hi)))
      go_meet
      case rel => exact ⟨_, (true), (by first | rfl | (simp; done) | (simp [*]; done)), H', ⟨by first | omega | exact Nat.le_refl _⟩, ⟨by (with_reducible repeat (first | refine blk_drewN ?_ _ | refine blk_drew ?_ | refine blk_alloc ?_ _)); exact BK748.out⟩, ⟨by (with_reducible repeat (first | refine blk_drewN ?_ _ | refine blk_drew ?_ | refine blk_alloc ?_ _)); exact BK749.out⟩, ⟨by repeat (first | (with_reducible first | exact HB.out | apply below_alloc | apply pw_below_drewN | apply below_drew1 | refine below_set ?_ GE748.out | refine below_set ?_ GE749.out) | exact HB.out)⟩⟩
  case rest =>
    clear HC4
    try clear c1
    try clear c2
    try clear c4
    try clear c41
    obtain ⟨kq, x40_3, rfl, HA, HJ3, BK748, BK749, HB⟩ := hcut
    cases kq with
    | zero => exact absurd HA.out (by simp [impl_IsMap.j0])
    | succ kj3 =>
      have H := HA.out
      clear HA
      simp only [impl_IsMap.j0] at H
      by_cases c52 : x40_3 = true
      · subst c52
        have H1 : (some false) = some r := by rw [if_pos rfl] at H; exact H
        clear H
        have H := H1
        clear H1
        obtain rfl := Option.some.inj H
        go_wp2
        go_ret
        exact ⟨by first | rfl | (simp [errW_none, errW_some] <;> rfl) | (simp [*, errW_none, errW_some] <;> rfl), by repeat (first | (with_reducible first | exact HB.out | apply below_alloc | apply pw_below_drewN | apply below_drew1 | refine below_set ?_ GE748.out | refine below_set ?_ GE749.out) | exact HB.out)⟩
      · replace c52 := Bool.eq_false_iff.mpr c52
        subst c52
        have H1 : (impl_IsMap.l0 kj3 l2 0 a0_0 l0_1 l0_2 l0_3 a1_0 l1_1 l1_2 l1_3) = some r := by rw [if_neg (show ¬ (false = true) by decide)] at H; exact H
        clear H
        have H := H1
        clear H1
        have H' := Aside0.mk H
        clear H
        go_wp2
        go_loopg [7] kj3 (fun kq v7 w' => ∃ (x7_2 : Int), v7 = .int .i64 x7_2 ∧ Aside0 (impl_IsMap.l0 kq l2 x7_2 a0_0 l0_1 l0_2 l0_3 a1_0 l1_1 l1_2 l1_3 = some r) ∧ Aside0 (kq ≤ kj3) ∧ Aside0 (w'.heap[gb748]? = some (.cells #[.int .i64 a0_0, (.slice A0_1 l0_1.length c0_1), (.slice A0_2 l0_2.length c0_2), (.slice A0_3 l0_3.length c0_3)] 28 (0, 0))) ∧ Aside0 (w'.heap[gb749]? = some (.cells #[.int .i64 a1_0, (.slice A1_1 l1_1.length c1_1), (.slice A1_2 l1_2.length c1_2), (.slice A1_3 l1_3.length c1_3)] 28 (0, 0))) ∧ Aside0 (Below w.heap.size w w'))
        case atStart => exact ⟨(0), (by first | rfl | (simp; done) | (simp [*]; done)), H', ⟨Nat.le_refl _⟩, ⟨by (with_reducible repeat (first | refine blk_drewN ?_ _ | refine blk_drew ?_ | refine blk_alloc ?_ _)); exact BK748.out⟩, ⟨by (with_reducible repeat (first | refine blk_drewN ?_ _ | refine blk_drew ?_ | refine blk_alloc ?_ _)); exact BK749.out⟩, ⟨by repeat (first | (with_reducible first | exact HB.out | apply below_alloc | apply pw_below_drewN | apply below_drew1 | refine below_set ?_ GE748.out | refine below_set ?_ GE749.out) | exact HB.out)⟩⟩
        case round =>
          clear H'
          try clear c1
          try clear c2
          try clear p2
          try clear c4
          try clear c5
          try clear c41
          try clear c52
          obtain ⟨x7_2, rfl, HA, HK2, BK748, BK749, HB⟩ := hrel
          cases gk with
          | zero => exact absurd HA.out (by simp [impl_IsMap.l0])
          | succ k2 =>
            have H := HA.out
            clear HA
            simp only [impl_IsMap.l0] at H
            by_cases c53 : x7_2 < a0_0
            · rw [if_pos c53] at H
              have c53b0 : decide (x7_2 < a0_0) = true := decide_eq_true c53
              clear c53
              have H' := Aside0.mk H
              clear H
              have hnb54 := NB748_749.out
              have hnc54 := NB749_748.out
              have hcz55_0 : wr.cell? ⟨gb748, 0, none⟩ = some (.int .i64 a0_0) := (blk_cell BK748.out 0).trans rfl
              have hcz55_1 : wr.cell? ⟨gb748, 1, none⟩ = some (.slice A0_1 l0_1.length c0_1) := (blk_cell BK748.out 1).trans rfl
              have hcz55_2 : wr.cell? ⟨gb748, 2, none⟩ = some (.slice A0_2 l0_2.length c0_2) := (blk_cell BK748.out 2).trans rfl
              have hcz55_3 : wr.cell? ⟨gb748, 3, none⟩ = some (.slice A0_3 l0_3.length c0_3) := (blk_cell BK748.out 3).trans rfl
              have hfz55_0 := blk_frozen BK748.out 0
              have hfz55_1 := blk_frozen BK748.out 1
              have hfz55_2 := blk_frozen BK748.out 2
              have hfz55_3 := blk_frozen BK748.out 3
              go_wp2
              go_loopg [8] k2 (fun kq v8 w' => ∃ (x8_3 : Int), v8 = .int .i64 x8_3 ∧ Aside0 (impl_IsMap.l1 kq l2 x7_2 x8_3 a0_0 l0_1 l0_2 l0_3 a1_0 l1_1 l1_2 l1_3 = some r) ∧ Aside0 (kq ≤ k2) ∧ Aside0 (w'.heap[gb748]? = some (.cells #[.int .i64 a0_0, (.slice A0_1 l0_1.length c0_1), (.slice A0_2 l0_2.length c0_2), (.slice A0_3 l0_3.length c0_3)] 28 (0, 0))) ∧ Aside0 (w'.heap[gb749]? = some (.cells #[.int .i64 a1_0, (.slice A1_1 l1_1.length c1_1), (.slice A1_2 l1_2.length c1_2), (.slice A1_3 l1_3.length c1_3)] 28 (0, 0))) ∧ Aside0 (Below w.heap.size w w'))
              case atStart => exact ⟨(0), (by first | rfl | (simp; done) | (simp [*]; done)), H', ⟨Nat.le_refl _⟩, ⟨by (with_reducible repeat (first | refine blk_drewN ?_ _ | refine blk_drew ?_ | refine blk_alloc ?_ _)); exact BK748.out⟩, ⟨by (with_reducible repeat (first | refine blk_drewN ?_ _ | refine blk_drew ?_ | refine blk_alloc ?_ _)); exact BK749.out⟩, ⟨by repeat (first | (with_reducible first | exact HB.out | apply below_alloc | apply pw_below_drewN | apply below_drew1 | refine below_set ?_ GE748.out | refine below_set ?_ GE749.out) | exact HB.out)⟩⟩
              case round =>
                clear H'
                try clear c1
                try clear c2
                try clear p2
                try clear c4
                try clear c5
                try clear c41
                try clear c52
                try clear c53
                try clear c53b0
                try clear c54
                try clear hcz55_0
                try clear hcz55_1
                try clear hcz55_2
                try clear hcz55_3
                try clear hfz55_0
                try clear hfz55_1
                try clear hfz55_2
                try clear hfz55_3
                try clear p2
                obtain ⟨x8_3, rfl, HA, HK3, BK748, BK749, HB⟩ := hrel
                cases gk with
                | zero => exact absurd HA.out (by simp [impl_IsMap.l1])
                | succ k3 =>
                  have H := HA.out
                  clear HA
                  simp only [impl_IsMap.l1] at H
                  by_cases c56 : x8_3 < a0_0
                  · rw [if_pos c56] at H
                    have c56b0 : decide (x8_3 < a0_0) = true := decide_eq_true c56
                    clear c56
                    replace H := Option.bind_eq_some_iff.mp H
                    obtain ⟨t755, A570, H⟩ := H
                    replace H : (if 0 ≤ t755 then (if t755 < (l2.length : Int) then (if 0 ≤ x7_2 then (if x7_2 < (l2.length : Int) then (if 0 ≤ x8_3 then (if x8_3 < (l2.length : Int) then ((impl_System_plus.f a1_0 l1_1 l1_2 l1_3 (rd l2 x7_2) (rd l2 x8_3)).bind fun t759 => (if (rd l2 t755) = t759 then ((impl_System_times.f a0_0 l0_1 l0_2 l0_3 x7_2 x8_3).bind fun t760 => (if 0 ≤ t760 then (if t760 < (l2.length : Int) then ((impl_System_times.f a1_0 l1_1 l1_2 l1_3 (rd l2 x7_2) (rd l2 x8_3)).bind fun t764 => (if (rd l2 t760) = t764 then ((impl_System_below.f a0_0 l0_1 l0_2 l0_3 x7_2 x8_3).bind fun t765 => (if t765 = true then ((impl_System_below.f a1_0 l1_1 l1_2 l1_3 (rd l2 x7_2) (rd l2 x8_3)).bind fun t768 => (if t768 = true then (impl_IsMap.l1 k3 l2 x7_2 (wrap64 (x8_3 + 1)) a0_0 l0_1 l0_2 l0_3 a1_0 l1_1 l1_2 l1_3) else (some false))) else (impl_IsMap.l1 k3 l2 x7_2 (wrap64 (x8_3 + 1)) a0_0 l0_1 l0_2 l0_3 a1_0 l1_1 l1_2 l1_3))) else (some false))) else (none)) else (none))) else (some false))) else (none)) else (none)) else (none)) else (none)) else (none)) else (none)) = some r := H
                    have A57 := Aside0.mk A570
                    clear A570
                    by_cases c58 : 0 ≤ t755
                    · rw [if_pos c58] at H
                      have c58b0 : decide (0 ≤ t755) = true := decide_eq_true c58
                      clear c58
                      by_cases c59 : t755 < (l2.length : Int)
                      · rw [if_pos c59] at H
                        have c59b0 : decide (t755 < (l2.length : Int)) = true := decide_eq_true c59
                        clear c59
                        by_cases c60 : 0 ≤ x7_2
                        · rw [if_pos c60] at H
                          have c60b0 : decide (0 ≤ x7_2) = true := decide_eq_true c60
                          clear c60
                          by_cases c61 : x7_2 < (l2.length : Int)
                          · rw [if_pos c61] at H
                            have c61b0 : decide (x7_2 < (l2.length : Int)) = true := decide_eq_true c61
                            clear c61
                            by_cases c62 : 0 ≤ x8_3
                            · rw [if_pos c62] at H
                              have c62b0 : decide (0 ≤ x8_3) = true := decide_eq_true c62
                              clear c62
                              by_cases c63 : x8_3 < (l2.length : Int)
                              · rw [if_pos c63] at H
                                have c63b0 : decide (x8_3 < (l2.length : Int)) = true := decide_eq_true c63
                                clear c63
                                replace H := Option.bind_eq_some_iff.mp H
                                obtain ⟨t759, A640, H⟩ := H
                                replace H : (if (rd l2 t755) = t759 then ((impl_System_times.f a0_0 l0_1 l0_2 l0_3 x7_2 x8_3).bind fun t760 => (if 0 ≤ t760 then (if t760 < (l2.length : Int) then ((impl_System_times.f a1_0 l1_1 l1_2 l1_3 (rd l2 x7_2) (rd l2 x8_3)).bind fun t764 => (if (rd l2 t760) = t764 then ((impl_System_below.f a0_0 l0_1 l0_2 l0_3 x7_2 x8_3).bind fun t765 => (if t765 = true then ((impl_System_below.f a1_0 l1_1 l1_2 l1_3 (rd l2 x7_2) (rd l2 x8_3)).bind fun t768 => (if t768 = true then (impl_IsMap.l1 k3 l2 x7_2 (wrap64 (x8_3 + 1)) a0_0 l0_1 l0_2 l0_3 a1_0 l1_1 l1_2 l1_3) else (some false))) else (impl_IsMap.l1 k3 l2 x7_2 (wrap64 (x8_3 + 1)) a0_0 l0_1 l0_2 l0_3 a1_0 l1_1 l1_2 l1_3))) else (some false))) else (none)) else (none))) else (some false)) = some r := H
                                have A64 := Aside0.mk A640
                                clear A640
                                by_cases c65 : (rd l2 t755) = t759
                                · rw [if_pos c65] at H
                                  have c65b0 : ((rd l2 t755) == t759) = true := beq_iff_eq.mpr c65
                                  have c65b1 : ((rd l2 t755) != t759) = false := bne_eq_false_iff_eq.mpr c65
                                  clear c65
                                  replace H := Option.bind_eq_some_iff.mp H
                                  obtain ⟨t760, A660, H⟩ := H
                                  replace H : (if 0 ≤ t760 then (if t760 < (l2.length : Int) then ((impl_System_times.f a1_0 l1_1 l1_2 l1_3 (rd l2 x7_2) (rd l2 x8_3)).bind fun t764 => (if (rd l2 t760) = t764 then ((impl_System_below.f a0_0 l0_1 l0_2 l0_3 x7_2 x8_3).bind fun t765 => (if t765 = true then ((impl_System_below.f a1_0 l1_1 l1_2 l1_3 (rd l2 x7_2) (rd l2 x8_3)).bind fun t768 => (if t768 = true then (impl_IsMap.l1 k3 l2 x7_2 (wrap64 (x8_3 + 1)) a0_0 l0_1 l0_2 l0_3 a1_0 l1_1 l1_2 l1_3) else (some false))) else (impl_IsMap.l1 k3 l2 x7_2 (wrap64 (x8_3 + 1)) a0_0 l0_1 l0_2 l0_3 a1_0 l1_1 l1_2 l1_3))) else (some false))) else (none)) else (none)) = some r := H
                                  have A66 := Aside0.mk A660
                                  clear A660
                                  by_cases c67 : 0 ≤ t760
                                  · rw [if_pos c67] at H
                                    have c67b0 : decide (0 ≤ t760) = true := decide_eq_true c67
                                    clear c67
                                    by_cases c68 : t760 < (l2.length : Int)
                                    · rw [if_pos c68] at H
                                      have c68b0 : decide (t760 < (l2.length : Int)) = true := decide_eq_true c68
                                      clear c68
                                      replace H := Option.bind_eq_some_iff.mp H
                                      obtain ⟨t764, A690, H⟩ := H
                                      replace H : (if (rd l2 t760) = t764 then ((impl_System_below.f a0_0 l0_1 l0_2 l0_3 x7_2 x8_3).bind fun t765 => (if t765 = true then ((impl_System_below.f a1_0 l1_1 l1_2 l1_3 (rd l2 x7_2) (rd l2 x8_3)).bind fun t768 => (if t768 = true then (impl_IsMap.l1 k3 l2 x7_2 (wrap64 (x8_3 + 1)) a0_0 l0_1 l0_2 l0_3 a1_0 l1_1 l1_2 l1_3) else (some false))) else (impl_IsMap.l1 k3 l2 x7_2 (wrap64 (x8_3 + 1)) a0_0 l0_1 l0_2 l0_3 a1_0 l1_1 l1_2 l1_3))) else (some false)) = some r := H
                                      have A69 := Aside0.mk A690
                                      clear A690
                                      by_cases c70 : (rd l2 t760) = t764
                                      · rw [if_pos c70] at H
                                        have c70b0 : ((rd l2 t760) == t764) = true := beq_iff_eq.mpr c70
                                        have c70b1 : ((rd l2 t760) != t764) = false := bne_eq_false_iff_eq.mpr c70
                                        clear c70
                                        replace H := Option.bind_eq_some_iff.mp H
                                        obtain ⟨t765, A710, H⟩ := H
                                        replace H : (if t765 = true then ((impl_System_below.f a1_0 l1_1 l1_2 l1_3 (rd l2 x7_2) (rd l2 x8_3)).bind fun t768 => (if t768 = true then (impl_IsMap.l1 k3 l2 x7_2 (wrap64 (x8_3 + 1)) a0_0 l0_1 l0_2 l0_3 a1_0 l1_1 l1_2 l1_3) else (some false))) else (impl_IsMap.l1 k3 l2 x7_2 (wrap64 (x8_3 + 1)) a0_0 l0_1 l0_2 l0_3 a1_0 l1_1 l1_2 l1_3)) = some r := H
                                        have A71 := Aside0.mk A710
                                        clear A710
                                        by_cases c72 : t765 = true
                                        · subst c72
                                          have H1 : ((impl_System_below.f a1_0 l1_1 l1_2 l1_3 (rd l2 x7_2) (rd l2 x8_3)).bind fun t768 => (if t768 = true then (impl_IsMap.l1 k3 l2 x7_2 (wrap64 (x8_3 + 1)) a0_0 l0_1 l0_2 l0_3 a1_0 l1_1 l1_2 l1_3) else (some false))) = some r := by rw [if_pos rfl] at H; exact H
                                          clear H
                                          have H := H1
                                          clear H1
                                          replace H := Option.bind_eq_some_iff.mp H
                                          obtain ⟨t768, A730, H⟩ := H
                                          replace H : (if t768 = true then (impl_IsMap.l1 k3 l2 x7_2 (wrap64 (x8_3 + 1)) a0_0 l0_1 l0_2 l0_3 a1_0 l1_1 l1_2 l1_3) else (some false)) = some r := H
                                          have A73 := Aside0.mk A730
                                          clear A730
                                          by_cases c74 : t768 = true
                                          · subst c74
                                            have H1 : (impl_IsMap.l1 k3 l2 x7_2 (wrap64 (x8_3 + 1)) a0_0 l0_1 l0_2 l0_3 a1_0 l1_1 l1_2 l1_3) = some r := by rw [if_pos rfl] at H; exact H
                                            clear H
                                            have H := H1
                                            clear H1
                                            have H' := Aside0.mk H
                                            clear H
                                            have hnb75 := NB748_749.out
                                            have hnc75 := NB749_748.out
                                            have hcz76_0 : wr.cell? ⟨gb748, 0, none⟩ = some (.int .i64 a0_0) := (blk_cell BK748.out 0).trans rfl
                                            have hcz76_1 : wr.cell? ⟨gb748, 1, none⟩ = some (.slice A0_1 l0_1.length c0_1) := (blk_cell BK748.out 1).trans rfl
                                            have hcz76_2 : wr.cell? ⟨gb748, 2, none⟩ = some (.slice A0_2 l0_2.length c0_2) := (blk_cell BK748.out 2).trans rfl
                                            have hcz76_3 : wr.cell? ⟨gb748, 3, none⟩ = some (.slice A0_3 l0_3.length c0_3) := (blk_cell BK748.out 3).trans rfl
                                            have hfz76_0 := blk_frozen BK748.out 0
                                            have hfz76_1 := blk_frozen BK748.out 1
                                            have hfz76_2 := blk_frozen BK748.out 2
                                            have hfz76_3 := blk_frozen BK748.out 3
                                            try go_wp2
                                            have p756 : 0 ≤ (t755 : Int) := of_decide_eq_true (by first | (with_reducible assumption) | assumption)
                                            have q756 : t755 < (l2.length : Int) := of_decide_eq_true (by first | (with_reducible assumption) | assumption)
                                            obtain ⟨ad756, e756, hx756_0⟩ := Kd.at_int HR2.out t755 p756 q756
                                            cases e756
                                            replace hx756_0 := (HB.out.cell (World.block_lt_of_cell? w _ hx756_0)).trans hx756_0
                                            replace p756 := eq_true p756
                                            replace q756 := eq_true q756
                                            have p757 : 0 ≤ (x7_2 : Int) := of_decide_eq_true (by first | (with_reducible assumption) | assumption)
                                            have q757 : x7_2 < (l2.length : Int) := of_decide_eq_true (by first | (with_reducible assumption) | assumption)
                                            obtain ⟨ad757, e757, hx757_0⟩ := Kd.at_int HR2.out x7_2 p757 q757
                                            obtain rfl : ad756 = ad757 := (by injection e757)
                                            replace hx757_0 := (HB.out.cell (World.block_lt_of_cell? w _ hx757_0)).trans hx757_0
                                            replace p757 := eq_true p757
                                            replace q757 := eq_true q757
                                            have p758 : 0 ≤ (x8_3 : Int) := of_decide_eq_true (by first | (with_reducible assumption) | assumption)
                                            have q758 : x8_3 < (l2.length : Int) := of_decide_eq_true (by first | (with_reducible assumption) | assumption)
                                            obtain ⟨ad758, e758, hx758_0⟩ := Kd.at_int HR2.out x8_3 p758 q758
                                            obtain rfl : ad756 = ad758 := (by injection e758)
                                            replace hx758_0 := (HB.out.cell (World.block_lt_of_cell? w _ hx758_0)).trans hx758_0
                                            replace p758 := eq_true p758
                                            replace q758 := eq_true q758
                                            have p761 : 0 ≤ (t760 : Int) := of_decide_eq_true (by first | (with_reducible assumption) | assumption)
                                            have q761 : t760 < (l2.length : Int) := of_decide_eq_true (by first | (with_reducible assumption) | assumption)
                                            obtain ⟨ad761, e761, hx761_0⟩ := Kd.at_int HR2.out t760 p761 q761
                                            obtain rfl : ad756 = ad761 := (by injection e761)
                                            replace hx761_0 := (HB.out.cell (World.block_lt_of_cell? w _ hx761_0)).trans hx761_0
                                            replace p761 := eq_true p761
                                            replace q761 := eq_true q761
                                            have p762 : 0 ≤ (x7_2 : Int) := of_decide_eq_true (by first | (with_reducible assumption) | assumption)
                                            have q762 : x7_2 < (l2.length : Int) := of_decide_eq_true (by first | (with_reducible assumption) | assumption)
                                            obtain ⟨ad762, e762, hx762_0⟩ := Kd.at_int HR2.out x7_2 p762 q762
                                            obtain rfl : ad756 = ad762 := (by injection e762)
                                            replace hx762_0 := (HB.out.cell (World.block_lt_of_cell? w _ hx762_0)).trans hx762_0
                                            replace p762 := eq_true p762
                                            replace q762 := eq_true q762
                                            have p763 : 0 ≤ (x8_3 : Int) := of_decide_eq_true (by first | (with_reducible assumption) | assumption)
                                            have q763 : x8_3 < (l2.length : Int) := of_decide_eq_true (by first | (with_reducible assumption) | assumption)
                                            obtain ⟨ad763, e763, hx763_0⟩ := Kd.at_int HR2.out x8_3 p763 q763
                                            obtain rfl : ad756 = ad763 := (by injection e763)
                                            replace hx763_0 := (HB.out.cell (World.block_lt_of_cell? w _ hx763_0)).trans hx763_0
                                            replace p763 := eq_true p763
                                            replace q763 := eq_true q763
                                            have p766 : 0 ≤ (x7_2 : Int) := of_decide_eq_true (by first | (with_reducible assumption) | assumption)
                                            have q766 : x7_2 < (l2.length : Int) := of_decide_eq_true (by first | (with_reducible assumption) | assumption)
                                            obtain ⟨ad766, e766, hx766_0⟩ := Kd.at_int HR2.out x7_2 p766 q766
                                            obtain rfl : ad756 = ad766 := (by injection e766)
                                            replace hx766_0 := (HB.out.cell (World.block_lt_of_cell? w _ hx766_0)).trans hx766_0
                                            replace p766 := eq_true p766
                                            replace q766 := eq_true q766
                                            have p767 : 0 ≤ (x8_3 : Int) := of_decide_eq_true (by first | (with_reducible assumption) | assumption)
                                            have q767 : x8_3 < (l2.length : Int) := of_decide_eq_true (by first | (with_reducible assumption) | assumption)
                                            obtain ⟨ad767, e767, hx767_0⟩ := Kd.at_int HR2.out x8_3 p767 q767
                                            obtain rfl : ad756 = ad767 := (by injection e767)
                                            replace hx767_0 := (HB.out.cell (World.block_lt_of_cell? w _ hx767_0)).trans hx767_0
                                            replace p767 := eq_true p767
                                            replace q767 := eq_true q767
                                            refine qb_region (by kernel_rfl) (by kernel_rfl) ?_
                                            have HQ := fun (wq : World) (hq : Below wr.heap.size wr wq) => below_step HB.out hq
                                            repeat ((first | (apply qb_skip; (focus rfl)) | (refine qb_callN 57 rfl ?_; apply qb_call 57 rfl Try.func53 (by kernel_rfl) rfl rfl; (focus rfl); (focus (exact fun wq9 hb9 => qb_b hb9 (impl_System_plus.calls a0_0 _ _ l0_1 _ _ l0_2 _ _ l0_3 x7_2 x8_3 t755 _ (Kd.C_below HR0_1.out (HQ _ hb9)) HC0_1.out (Kd.C_below HR0_2.out (HQ _ hb9)) HC0_2.out (Kd.C_below HR0_3.out (HQ _ hb9)) HC0_3.out A57.out))); (focus (rfl))) | (refine qb_callN 69 rfl ?_; apply qb_call 69 rfl Try.func53 (by kernel_rfl) rfl rfl; (focus rfl); (focus (exact fun wq9 hb9 => qb_b hb9 (impl_System_plus.calls a1_0 _ _ l1_1 _ _ l1_2 _ _ l1_3 (rd l2 x7_2) (rd l2 x8_3) t759 _ (Kd.C_below HR1_1.out (HQ _ hb9)) HC1_1.out (Kd.C_below HR1_2.out (HQ _ hb9)) HC1_2.out (Kd.C_below HR1_3.out (HQ _ hb9)) HC1_3.out A64.out))); (focus (rfl))) | (refine qb_callN 76 rfl ?_; apply qb_call 76 rfl Try.func54 (by kernel_rfl) rfl rfl; (focus rfl); (focus (exact fun wq9 hb9 => qb_b hb9 (impl_System_times.calls a0_0 _ _ l0_1 _ _ l0_2 _ _ l0_3 x7_2 x8_3 t760 _ (Kd.C_below HR0_1.out (HQ _ hb9)) HC0_1.out (Kd.C_below HR0_2.out (HQ _ hb9)) HC0_2.out (Kd.C_below HR0_3.out (HQ _ hb9)) HC0_3.out A66.out))); (focus (rfl))) | (refine qb_callN 88 rfl ?_; apply qb_call 88 rfl Try.func54 (by kernel_rfl) rfl rfl; (focus rfl); (focus (exact fun wq9 hb9 => qb_b hb9 (impl_System_times.calls a1_0 _ _ l1_1 _ _ l1_2 _ _ l1_3 (rd l2 x7_2) (rd l2 x8_3) t764 _ (Kd.C_below HR1_1.out (HQ _ hb9)) HC1_1.out (Kd.C_below HR1_2.out (HQ _ hb9)) HC1_2.out (Kd.C_below HR1_3.out (HQ _ hb9)) HC1_3.out A69.out))); (focus (rfl))) | (refine qb_callN 95 rfl ?_; apply qb_call 95 rfl Try.func55 (by kernel_rfl) rfl rfl; (focus rfl); (focus (exact fun wq9 hb9 => qb_b hb9 (impl_System_below.calls a0_0 _ _ l0_1 _ _ l0_2 _ _ l0_3 x7_2 x8_3 true _ (Kd.C_below HR0_1.out (HQ _ hb9)) HC0_1.out (Kd.C_below HR0_2.out (HQ _ hb9)) HC0_2.out (Kd.C_below HR0_3.out (HQ _ hb9)) HC0_3.out A71.out))); (focus (rfl))) | (refine qb_callN 106 rfl ?_; apply qb_call 106 rfl Try.func55 (by kernel_rfl) rfl rfl; (focus rfl); (focus (exact fun wq9 hb9 => qb_b hb9 (impl_System_below.calls a1_0 _ _ l1_1 _ _ l1_2 _ _ l1_3 (rd l2 x7_2) (rd l2 x8_3) true _ (Kd.C_below HR1_1.out (HQ _ hb9)) HC1_1.out (Kd.C_below HR1_2.out (HQ _ hb9)) HC1_2.out (Kd.C_below HR1_3.out (HQ _ hb9)) HC1_3.out A73.out))); (focus (rfl))) | (apply qb_val; (focus rfl); (focus (intro wq9 _; go_simp; with_reducible rfl))) | (apply qb_val; (focus rfl); (focus (intro wq9 hb9_; have hb9 : Below wr.heap.size wr wq9 := hb9_; have BK748 := Aside0.mk (blk_below BK748.out hb9); have BK749 := Aside0.mk (blk_below BK749.out hb9); have hc9_748_0 : wq9.cell? ⟨gb748, 0, none⟩ = some (.int .i64 a0_0) := (blk_cell BK748.out 0).trans rfl; have hc9_748_1 : wq9.cell? ⟨gb748, 1, none⟩ = some (.slice A0_1 l0_1.length c0_1) := (blk_cell BK748.out 1).trans rfl; have hc9_748_2 : wq9.cell? ⟨gb748, 2, none⟩ = some (.slice A0_2 l0_2.length c0_2) := (blk_cell BK748.out 2).trans rfl; have hc9_748_3 : wq9.cell? ⟨gb748, 3, none⟩ = some (.slice A0_3 l0_3.length c0_3) := (blk_cell BK748.out 3).trans rfl; have hc9_749_0 : wq9.cell? ⟨gb749, 0, none⟩ = some (.int .i64 a1_0) := (blk_cell BK749.out 0).trans rfl; have hc9_749_1 : wq9.cell? ⟨gb749, 1, none⟩ = some (.slice A1_1 l1_1.length c1_1) := (blk_cell BK749.out 1).trans rfl; have hc9_749_2 : wq9.cell? ⟨gb749, 2, none⟩ = some (.slice A1_2 l1_2.length c1_2) := (blk_cell BK749.out 2).trans rfl; have hc9_749_3 : wq9.cell? ⟨gb749, 3, none⟩ = some (.slice A1_3 l1_3.length c1_3) := (blk_cell BK749.out 3).trans rfl; have hx756_0 := (hb9.cell (World.block_lt_of_cell? _ _ hx756_0)).trans hx756_0; have hx757_0 := (hb9.cell (World.block_lt_of_cell? _ _ hx757_0)).trans hx757_0; have hx758_0 := (hb9.cell (World.block_lt_of_cell? _ _ hx758_0)).trans hx758_0; have hx761_0 := (hb9.cell (World.block_lt_of_cell? _ _ hx761_0)).trans hx761_0; have hx762_0 := (hb9.cell (World.block_lt_of_cell? _ _ hx762_0)).trans hx762_0; have hx763_0 := (hb9.cell (World.block_lt_of_cell? _ _ hx763_0)).trans hx763_0; have hx766_0 := (hb9.cell (World.block_lt_of_cell? _ _ hx766_0)).trans hx766_0; have hx767_0 := (hb9.cell (World.block_lt_of_cell? _ _ hx767_0)).trans hx767_0; go_simp; with_reducible rfl)))); (focus (simp only [Act.put, List.setIfInBounds_toArray, List.set_cons_zero, List.set_cons_succ, i64_w, i32_w]; rfl)))
                                            refine qb_nil ?_
                                            intro w83 hb
                                            have n0_ := Aside0.mk (blk_below BK748.out hb)
                                            have n1_ := Aside0.mk (blk_below BK749.out hb)
                                            have n2_ := Aside0.mk (below_step HB.out hb)
                                            clear BK748
                                            clear BK749
                                            clear HB
                                            have BK748 := n0_
                                            have BK749 := n1_
                                            have HB := n2_
                                            clear n0_ n1_ n2_
                                            clear hb
                                            (try clear HQ)
                                            try go_wp2
                                            go_roundg k3
                                            case measure => have := HJ3.out; have := HK2.out; have := HK3.out; omega
                                            case rel => exact ⟨(wrap64 (x8_3 + 1)), (by first | rfl | (simp; done) | (simp [*]; done)), H', ⟨by have := HJ3.out; have := HK2.out; have := HK3.out; omega⟩, ⟨by (with_reducible repeat (first | refine blk_drewN ?_ _ | refine blk_drew ?_ | refine blk_alloc ?_ _)); exact BK748.out⟩, ⟨by (with_reducible repeat (first | refine blk_drewN ?_ _ | refine blk_drew ?_ | refine blk_alloc ?_ _)); exact BK749.out⟩, ⟨by repeat (first | (with_reducible first | exact HB.out | apply below_alloc | apply pw_below_drewN | apply below_drew1 | refine below_set ?_ GE748.out | refine below_set ?_ GE749.out) | exact HB.out)⟩⟩
                                          · replace c74 := Bool.eq_false_iff.mpr c74
                                            subst c74
                                            have H1 : (some false) = some r := by rw [if_neg (show ¬ (false = true) by decide)] at H; exact H
                                            clear H
                                            have H := H1
                                            clear H1
                                            obtain rfl := Option.some.inj H
                                            have hnb84 := NB748_749.out
                                            have hnc84 := NB749_748.out
                                            have hcz85_0 : wr.cell? ⟨gb748, 0, none⟩ = some (.int .i64 a0_0) := (blk_cell BK748.out 0).trans rfl
                                            have hcz85_1 : wr.cell? ⟨gb748, 1, none⟩ = some (.slice A0_1 l0_1.length c0_1) := (blk_cell BK748.out 1).trans rfl
                                            have hcz85_2 : wr.cell? ⟨gb748, 2, none⟩ = some (.slice A0_2 l0_2.length c0_2) := (blk_cell BK748.out 2).trans rfl
                                            have hcz85_3 : wr.cell? ⟨gb748, 3, none⟩ = some (.slice A0_3 l0_3.length c0_3) := (blk_cell BK748.out 3).trans rfl
                                            have hfz85_0 := blk_frozen BK748.out 0
                                            have hfz85_1 := blk_frozen BK748.out 1
                                            have hfz85_2 := blk_frozen BK748.out 2
                                            have hfz85_3 := blk_frozen BK748.out 3
                                            try go_wp2
                                            have p756 : 0 ≤ (t755 : Int) := of_decide_eq_true (by first | (with_reducible assumption) | assumption)
                                            have q756 : t755 < (l2.length : Int) := of_decide_eq_true (by first | (with_reducible assumption) | assumption)
                                            obtain ⟨ad756, e756, hx756_0⟩ := Kd.at_int HR2.out t755 p756 q756
                                            cases e756
                                            replace hx756_0 := (HB.out.cell (World.block_lt_of_cell? w _ hx756_0)).trans hx756_0
                                            replace p756 := eq_true p756
                                            replace q756 := eq_true q756
                                            have p757 : 0 ≤ (x7_2 : Int) := of_decide_eq_true (by first | (with_reducible assumption) | assumption)
                                            have q757 : x7_2 < (l2.length : Int) := of_decide_eq_true (by first | (with_reducible assumption) | assumption)
                                            obtain ⟨ad757, e757, hx757_0⟩ := Kd.at_int HR2.out x7_2 p757 q757
                                            obtain rfl : ad756 = ad757 := (by injection e757)
                                            replace hx757_0 := (HB.out.cell (World.block_lt_of_cell? w _ hx757_0)).trans hx757_0
                                            replace p757 := eq_true p757
                                            replace q757 := eq_true q757
                                            have p758 : 0 ≤ (x8_3 : Int) := of_decide_eq_true (by first | (with_reducible assumption) | assumption)
                                            have q758 : x8_3 < (l2.length : Int) := of_decide_eq_true (by first | (with_reducible assumption) | assumption)
                                            obtain ⟨ad758, e758, hx758_0⟩ := Kd.at_int HR2.out x8_3 p758 q758
                                            obtain rfl : ad756 = ad758 := (by injection e758)
                                            replace hx758_0 := (HB.out.cell (World.block_lt_of_cell? w _ hx758_0)).trans hx758_0
                                            replace p758 := eq_true p758
                                            replace q758 := eq_true q758
                                            have p761 : 0 ≤ (t760 : Int) := of_decide_eq_true (by first | (with_reducible assumption) | assumption)
                                            have q761 : t760 < (l2.length : Int) := of_decide_eq_true (by first | (with_reducible assumption) | assumption)
                                            obtain ⟨ad761, e761, hx761_0⟩ := Kd.at_int HR2.out t760 p761 q761
                                            obtain rfl : ad756 = ad761 := (by injection e761)
                                            replace hx761_0 := (HB.out.cell (World.block_lt_of_cell? w _ hx761_0)).trans hx761_0
                                            replace p761 := eq_true p761
                                            replace q761 := eq_true q761
                                            have p762 : 0 ≤ (x7_2 : Int) := of_decide_eq_true (by first | (with_reducible assumption) | assumption)
                                            have q762 : x7_2 < (l2.length : Int) := of_decide_eq_true (by first | (with_reducible assumption) | assumption)
                                            obtain ⟨ad762, e762, hx762_0⟩ := Kd.at_int HR2.out x7_2 p762 q762
                                            obtain rfl : ad756 = ad762 := (by injection e762)
                                            replace hx762_0 := (HB.out.cell (World.block_lt_of_cell? w _ hx762_0)).trans hx762_0
                                            replace p762 := eq_true p762
                                            replace q762 := eq_true q762
                                            have p763 : 0 ≤ (x8_3 : Int) := of_decide_eq_true (by first | (with_reducible assumption) | assumption)
                                            have q763 : x8_3 < (l2.length : Int) := of_decide_eq_true (by first | (with_reducible assumption) | assumption)
                                            obtain ⟨ad763, e763, hx763_0⟩ := Kd.at_int HR2.out x8_3 p763 q763
                                            obtain rfl : ad756 = ad763 := (by injection e763)
                                            replace hx763_0 := (HB.out.cell (World.block_lt_of_cell? w _ hx763_0)).trans hx763_0
                                            replace p763 := eq_true p763
                                            replace q763 := eq_true q763
                                            have p766 : 0 ≤ (x7_2 : Int) := of_decide_eq_true (by first | (with_reducible assumption) | assumption)
                                            have q766 : x7_2 < (l2.length : Int) := of_decide_eq_true (by first | (with_reducible assumption) | assumption)
                                            obtain ⟨ad766, e766, hx766_0⟩ := Kd.at_int HR2.out x7_2 p766 q766
                                            obtain rfl : ad756 = ad766 := (by injection e766)
                                            replace hx766_0 := (HB.out.cell (World.block_lt_of_cell? w _ hx766_0)).trans hx766_0
                                            replace p766 := eq_true p766
                                            replace q766 := eq_true q766
                                            have p767 : 0 ≤ (x8_3 : Int) := of_decide_eq_true (by first | (with_reducible assumption) | assumption)
                                            have q767 : x8_3 < (l2.length : Int) := of_decide_eq_true (by first | (with_reducible assumption) | assumption)
                                            obtain ⟨ad767, e767, hx767_0⟩ := Kd.at_int HR2.out x8_3 p767 q767
                                            obtain rfl : ad756 = ad767 := (by injection e767)
                                            replace hx767_0 := (HB.out.cell (World.block_lt_of_cell? w _ hx767_0)).trans hx767_0
                                            replace p767 := eq_true p767
                                            replace q767 := eq_true q767
                                            refine qb_region (by kernel_rfl) (by kernel_rfl) ?_
                                            have HQ := fun (wq : World) (hq : Below wr.heap.size wr wq) => below_step HB.out hq
                                            repeat ((first | (apply qb_skip; (focus rfl)) | (refine qb_callN 57 rfl ?_; apply qb_call 57 rfl Try.func53 (by kernel_rfl) rfl rfl; (focus rfl); (focus (exact fun wq9 hb9 => qb_b hb9 (impl_System_plus.calls a0_0 _ _ l0_1 _ _ l0_2 _ _ l0_3 x7_2 x8_3 t755 _ (Kd.C_below HR0_1.out (HQ _ hb9)) HC0_1.out (Kd.C_below HR0_2.out (HQ _ hb9)) HC0_2.out (Kd.C_below HR0_3.out (HQ _ hb9)) HC0_3.out A57.out))); (focus (rfl))) | (refine qb_callN 69 rfl ?_; apply qb_call 69 rfl Try.func53 (by kernel_rfl) rfl rfl; (focus rfl); (focus (exact fun wq9 hb9 => qb_b hb9 (impl_System_plus.calls a1_0 _ _ l1_1 _ _ l1_2 _ _ l1_3 (rd l2 x7_2) (rd l2 x8_3) t759 _ (Kd.C_below HR1_1.out (HQ _ hb9)) HC1_1.out (Kd.C_below HR1_2.out (HQ _ hb9)) HC1_2.out (Kd.C_below HR1_3.out (HQ _ hb9)) HC1_3.out A64.out))); (focus (rfl))) | (refine qb_callN 76 rfl ?_; apply qb_call 76 rfl Try.func54 (by kernel_rfl) rfl rfl; (focus rfl); (focus (exact fun wq9 hb9 => qb_b hb9 (impl_System_times.calls a0_0 _ _ l0_1 _ _ l0_2 _ _ l0_3 x7_2 x8_3 t760 _ (Kd.C_below HR0_1.out (HQ _ hb9)) HC0_1.out (Kd.C_below HR0_2.out (HQ _ hb9)) HC0_2.out (Kd.C_below HR0_3.out (HQ _ hb9)) HC0_3.out A66.out))); (focus (rfl))) | (refine qb_callN 88 rfl ?_; apply qb_call 88 rfl Try.func54 (by kernel_rfl) rfl rfl; (focus rfl); (focus (exact fun wq9 hb9 => qb_b hb9 (impl_System_times.calls a1_0 _ _ l1_1 _ _ l1_2 _ _ l1_3 (rd l2 x7_2) (rd l2 x8_3) t764 _ (Kd.C_below HR1_1.out (HQ _ hb9)) HC1_1.out (Kd.C_below HR1_2.out (HQ _ hb9)) HC1_2.out (Kd.C_below HR1_3.out (HQ _ hb9)) HC1_3.out A69.out))); (focus (rfl))) | (refine qb_callN 95 rfl ?_; apply qb_call 95 rfl Try.func55 (by kernel_rfl) rfl rfl; (focus rfl); (focus (exact fun wq9 hb9 => qb_b hb9 (impl_System_below.calls a0_0 _ _ l0_1 _ _ l0_2 _ _ l0_3 x7_2 x8_3 true _ (Kd.C_below HR0_1.out (HQ _ hb9)) HC0_1.out (Kd.C_below HR0_2.out (HQ _ hb9)) HC0_2.out (Kd.C_below HR0_3.out (HQ _ hb9)) HC0_3.out A71.out))); (focus (rfl))) | (refine qb_callN 106 rfl ?_; apply qb_call 106 rfl Try.func55 (by kernel_rfl) rfl rfl; (focus rfl); (focus (exact fun wq9 hb9 => qb_b hb9 (impl_System_below.calls a1_0 _ _ l1_1 _ _ l1_2 _ _ l1_3 (rd l2 x7_2) (rd l2 x8_3) false _ (Kd.C_below HR1_1.out (HQ _ hb9)) HC1_1.out (Kd.C_below HR1_2.out (HQ _ hb9)) HC1_2.out (Kd.C_below HR1_3.out (HQ _ hb9)) HC1_3.out A73.out))); (focus (rfl))) | (apply qb_val; (focus rfl); (focus (intro wq9 _; go_simp; with_reducible rfl))) | (apply qb_val; (focus rfl); (focus (intro wq9 hb9_; have hb9 : Below wr.heap.size wr wq9 := hb9_; have BK748 := Aside0.mk (blk_below BK748.out hb9); have BK749 := Aside0.mk (blk_below BK749.out hb9); have hc9_748_0 : wq9.cell? ⟨gb748, 0, none⟩ = some (.int .i64 a0_0) := (blk_cell BK748.out 0).trans rfl; have hc9_748_1 : wq9.cell? ⟨gb748, 1, none⟩ = some (.slice A0_1 l0_1.length c0_1) := (blk_cell BK748.out 1).trans rfl; have hc9_748_2 : wq9.cell? ⟨gb748, 2, none⟩ = some (.slice A0_2 l0_2.length c0_2) := (blk_cell BK748.out 2).trans rfl; have hc9_748_3 : wq9.cell? ⟨gb748, 3, none⟩ = some (.slice A0_3 l0_3.length c0_3) := (blk_cell BK748.out 3).trans rfl; have hc9_749_0 : wq9.cell? ⟨gb749, 0, none⟩ = some (.int .i64 a1_0) := (blk_cell BK749.out 0).trans rfl; have hc9_749_1 : wq9.cell? ⟨gb749, 1, none⟩ = some (.slice A1_1 l1_1.length c1_1) := (blk_cell BK749.out 1).trans rfl; have hc9_749_2 : wq9.cell? ⟨gb749, 2, none⟩ = some (.slice A1_2 l1_2.length c1_2) := (blk_cell BK749.out 2).trans rfl; have hc9_749_3 : wq9.cell? ⟨gb749, 3, none⟩ = some (.slice A1_3 l1_3.length c1_3) := (blk_cell BK749.out 3).trans rfl; have hx756_0 := (hb9.cell (World.block_lt_of_cell? _ _ hx756_0)).trans hx756_0; have hx757_0 := (hb9.cell (World.block_lt_of_cell? _ _ hx757_0)).trans hx757_0; have hx758_0 := (hb9.cell (World.block_lt_of_cell? _ _ hx758_0)).trans hx758_0; have hx761_0 := (hb9.cell (World.block_lt_of_cell? _ _ hx761_0)).trans hx761_0; have hx762_0 := (hb9.cell (World.block_lt_of_cell? _ _ hx762_0)).trans hx762_0; have hx763_0 := (hb9.cell (World.block_lt_of_cell? _ _ hx763_0)).trans hx763_0; have hx766_0 := (hb9.cell (World.block_lt_of_cell? _ _ hx766_0)).trans hx766_0; have hx767_0 := (hb9.cell (World.block_lt_of_cell? _ _ hx767_0)).trans hx767_0; go_simp; with_reducible rfl)))); (focus (simp only [Act.put, List.setIfInBounds_toArray, List.set_cons_zero, List.set_cons_succ, i64_w, i32_w]; rfl)))
                                            refine qb_nil ?_
                                            intro w92 hb
                                            have n0_ := Aside0.mk (blk_below BK748.out hb)
                                            have n1_ := Aside0.mk (blk_below BK749.out hb)
                                            have n2_ := Aside0.mk (below_step HB.out hb)
                                            clear BK748
                                            clear BK749
                                            clear HB
                                            have BK748 := n0_
                                            have BK749 := n1_
                                            have HB := n2_
                                            clear n0_ n1_ n2_
                                            clear hb
                                            (try clear HQ)
                                            try go_wp2
                                            go_ret
                                            exact ⟨by first | rfl | (simp [errW_none, errW_some] <;> rfl) | (simp [*, errW_none, errW_some] <;> rfl), by repeat (first | (with_reducible first | exact HB.out | apply below_alloc | apply pw_below_drewN | apply below_drew1 | refine below_set ?_ GE748.out | refine below_set ?_ GE749.out) | exact HB.out)⟩
                                        · replace c72 := Bool.eq_false_iff.mpr c72
                                          subst c72
                                          have H1 : (impl_IsMap.l1 k3 l2 x7_2 (wrap64 (x8_3 + 1)) a0_0 l0_1 l0_2 l0_3 a1_0 l1_1 l1_2 l1_3) = some r := by rw [if_neg (show ¬ (false = true) by decide)] at H; exact H
                                          clear H
                                          have H := H1
                                          clear H1
                                          have H' := Aside0.mk H
                                          clear H
                                          have hnb93 := NB748_749.out
                                          have hnc93 := NB749_748.out
                                          have hcz94_0 : wr.cell? ⟨gb748, 0, none⟩ = some (.int .i64 a0_0) := (blk_cell BK748.out 0).trans rfl
                                          have hcz94_1 : wr.cell? ⟨gb748, 1, none⟩ = some (.slice A0_1 l0_1.length c0_1) := (blk_cell BK748.out 1).trans rfl
                                          have hcz94_2 : wr.cell? ⟨gb748, 2, none⟩ = some (.slice A0_2 l0_2.length c0_2) := (blk_cell BK748.out 2).trans rfl
                                          have hcz94_3 : wr.cell? ⟨gb748, 3, none⟩ = some (.slice A0_3 l0_3.length c0_3) := (blk_cell BK748.out 3).trans rfl
                                          have hfz94_0 := blk_frozen BK748.out 0
                                          have hfz94_1 := blk_frozen BK748.out 1
                                          have hfz94_2 := blk_frozen BK748.out 2
                                          have hfz94_3 := blk_frozen BK748.out 3
                                          try go_wp2
                                          have p756 : 0 ≤ (t755 : Int) := of_decide_eq_true (by first | (with_reducible assumption) | assumption)
                                          have q756 : t755 < (l2.length : Int) := of_decide_eq_true (by first | (with_reducible assumption) | assumption)
                                          obtain ⟨ad756, e756, hx756_0⟩ := Kd.at_int HR2.out t755 p756 q756
                                          cases e756
                                          replace hx756_0 := (HB.out.cell (World.block_lt_of_cell? w _ hx756_0)).trans hx756_0
                                          replace p756 := eq_true p756
                                          replace q756 := eq_true q756
                                          have p757 : 0 ≤ (x7_2 : Int) := of_decide_eq_true (by first | (with_reducible assumption) | assumption)
                                          have q757 : x7_2 < (l2.length : Int) := of_decide_eq_true (by first | (with_reducible assumption) | assumption)
                                          obtain ⟨ad757, e757, hx757_0⟩ := Kd.at_int HR2.out x7_2 p757 q757
                                          obtain rfl : ad756 = ad757 := (by injection e757)
                                          replace hx757_0 := (HB.out.cell (World.block_lt_of_cell? w _ hx757_0)).trans hx757_0
                                          replace p757 := eq_true p757
                                          replace q757 := eq_true q757
                                          have p758 : 0 ≤ (x8_3 : Int) := of_decide_eq_true (by first | (with_reducible assumption) | assumption)
                                          have q758 : x8_3 < (l2.length : Int) := of_decide_eq_true (by first | (with_reducible assumption) | assumption)
                                          obtain ⟨ad758, e758, hx758_0⟩ := Kd.at_int HR2.out x8_3 p758 q758
                                          obtain rfl : ad756 = ad758 := (by injection e758)
                                          replace hx758_0 := (HB.out.cell (World.block_lt_of_cell? w _ hx758_0)).trans hx758_0
                                          replace p758 := eq_true p758
                                          replace q758 := eq_true q758
                                          have p761 : 0 ≤ (t760 : Int) := of_decide_eq_true (by first | (with_reducible assumption) | assumption)
                                          have q761 : t760 < (l2.length : Int) := of_decide_eq_true (by first | (with_reducible assumption) | assumption)
                                          obtain ⟨ad761, e761, hx761_0⟩ := Kd.at_int HR2.out t760 p761 q761
                                          obtain rfl : ad756 = ad761 := (by injection e761)
                                          replace hx761_0 := (HB.out.cell (World.block_lt_of_cell? w _ hx761_0)).trans hx761_0
                                          replace p761 := eq_true p761
                                          replace q761 := eq_true q761
                                          have p762 : 0 ≤ (x7_2 : Int) := of_decide_eq_true (by first | (with_reducible assumption) | assumption)
                                          have q762 : x7_2 < (l2.length : Int) := of_decide_eq_true (by first | (with_reducible assumption) | assumption)
                                          obtain ⟨ad762, e762, hx762_0⟩ := Kd.at_int HR2.out x7_2 p762 q762
                                          obtain rfl : ad756 = ad762 := (by injection e762)
                                          replace hx762_0 := (HB.out.cell (World.block_lt_of_cell? w _ hx762_0)).trans hx762_0
                                          replace p762 := eq_true p762
                                          replace q762 := eq_true q762
                                          have p763 : 0 ≤ (x8_3 : Int) := of_decide_eq_true (by first | (with_reducible assumption) | assumption)
                                          have q763 : x8_3 < (l2.length : Int) := of_decide_eq_true (by first | (with_reducible assumption) | assumption)
                                          obtain ⟨ad763, e763, hx763_0⟩ := Kd.at_int HR2.out x8_3 p763 q763
                                          obtain rfl : ad756 = ad763 := (by injection e763)
                                          replace hx763_0 := (HB.out.cell (World.block_lt_of_cell? w _ hx763_0)).trans hx763_0
                                          replace p763 := eq_true p763
                                          replace q763 := eq_true q763
                                          refine qb_region (by kernel_rfl) (by kernel_rfl) ?_
                                          have HQ := fun (wq : World) (hq : Below wr.heap.size wr wq) => below_step HB.out hq
                                          repeat ((first | (apply qb_skip; (focus rfl)) | (refine qb_callN 57 rfl ?_; apply qb_call 57 rfl Try.func53 (by kernel_rfl) rfl rfl; (focus rfl); (focus (exact fun wq9 hb9 => qb_b hb9 (impl_System_plus.calls a0_0 _ _ l0_1 _ _ l0_2 _ _ l0_3 x7_2 x8_3 t755 _ (Kd.C_below HR0_1.out (HQ _ hb9)) HC0_1.out (Kd.C_below HR0_2.out (HQ _ hb9)) HC0_2.out (Kd.C_below HR0_3.out (HQ _ hb9)) HC0_3.out A57.out))); (focus (rfl))) | (refine qb_callN 69 rfl ?_; apply qb_call 69 rfl Try.func53 (by kernel_rfl) rfl rfl; (focus rfl); (focus (exact fun wq9 hb9 => qb_b hb9 (impl_System_plus.calls a1_0 _ _ l1_1 _ _ l1_2 _ _ l1_3 (rd l2 x7_2) (rd l2 x8_3) t759 _ (Kd.C_below HR1_1.out (HQ _ hb9)) HC1_1.out (Kd.C_below HR1_2.out (HQ _ hb9)) HC1_2.out (Kd.C_below HR1_3.out (HQ _ hb9)) HC1_3.out A64.out))); (focus (rfl))) | (refine qb_callN 76 rfl ?_; apply qb_call 76 rfl Try.func54 (by kernel_rfl) rfl rfl; (focus rfl); (focus (exact fun wq9 hb9 => qb_b hb9 (impl_System_times.calls a0_0 _ _ l0_1 _ _ l0_2 _ _ l0_3 x7_2 x8_3 t760 _ (Kd.C_below HR0_1.out (HQ _ hb9)) HC0_1.out (Kd.C_below HR0_2.out (HQ _ hb9)) HC0_2.out (Kd.C_below HR0_3.out (HQ _ hb9)) HC0_3.out A66.out))); (focus (rfl))) | (refine qb_callN 88 rfl ?_; apply qb_call 88 rfl Try.func54 (by kernel_rfl) rfl rfl; (focus rfl); (focus (exact fun wq9 hb9 => qb_b hb9 (impl_System_times.calls a1_0 _ _ l1_1 _ _ l1_2 _ _ l1_3 (rd l2 x7_2) (rd l2 x8_3) t764 _ (Kd.C_below HR1_1.out (HQ _ hb9)) HC1_1.out (Kd.C_below HR1_2.out (HQ _ hb9)) HC1_2.out (Kd.C_below HR1_3.out (HQ _ hb9)) HC1_3.out A69.out))); (focus (rfl))) | (refine qb_callN 95 rfl ?_; apply qb_call 95 rfl Try.func55 (by kernel_rfl) rfl rfl; (focus rfl); (focus (exact fun wq9 hb9 => qb_b hb9 (impl_System_below.calls a0_0 _ _ l0_1 _ _ l0_2 _ _ l0_3 x7_2 x8_3 false _ (Kd.C_below HR0_1.out (HQ _ hb9)) HC0_1.out (Kd.C_below HR0_2.out (HQ _ hb9)) HC0_2.out (Kd.C_below HR0_3.out (HQ _ hb9)) HC0_3.out A71.out))); (focus (rfl))) | (apply qb_val; (focus rfl); (focus (intro wq9 _; go_simp; with_reducible rfl))) | (apply qb_val; (focus rfl); (focus (intro wq9 hb9_; have hb9 : Below wr.heap.size wr wq9 := hb9_; have BK748 := Aside0.mk (blk_below BK748.out hb9); have BK749 := Aside0.mk (blk_below BK749.out hb9); have hc9_748_0 : wq9.cell? ⟨gb748, 0, none⟩ = some (.int .i64 a0_0) := (blk_cell BK748.out 0).trans rfl; have hc9_748_1 : wq9.cell? ⟨gb748, 1, none⟩ = some (.slice A0_1 l0_1.length c0_1) := (blk_cell BK748.out 1).trans rfl; have hc9_748_2 : wq9.cell? ⟨gb748, 2, none⟩ = some (.slice A0_2 l0_2.length c0_2) := (blk_cell BK748.out 2).trans rfl; have hc9_748_3 : wq9.cell? ⟨gb748, 3, none⟩ = some (.slice A0_3 l0_3.length c0_3) := (blk_cell BK748.out 3).trans rfl; have hc9_749_0 : wq9.cell? ⟨gb749, 0, none⟩ = some (.int .i64 a1_0) := (blk_cell BK749.out 0).trans rfl; have hc9_749_1 : wq9.cell? ⟨gb749, 1, none⟩ = some (.slice A1_1 l1_1.length c1_1) := (blk_cell BK749.out 1).trans rfl; have hc9_749_2 : wq9.cell? ⟨gb749, 2, none⟩ = some (.slice A1_2 l1_2.length c1_2) := (blk_cell BK749.out 2).trans rfl; have hc9_749_3 : wq9.cell? ⟨gb749, 3, none⟩ = some (.slice A1_3 l1_3.length c1_3) := (blk_cell BK749.out 3).trans rfl; have hx756_0 := (hb9.cell (World.block_lt_of_cell? _ _ hx756_0)).trans hx756_0; have hx757_0 := (hb9.cell (World.block_lt_of_cell? _ _ hx757_0)).trans hx757_0; have hx758_0 := (hb9.cell (World.block_lt_of_cell? _ _ hx758_0)).trans hx758_0; have hx761_0 := (hb9.cell (World.block_lt_of_cell? _ _ hx761_0)).trans hx761_0; have hx762_0 := (hb9.cell (World.block_lt_of_cell? _ _ hx762_0)).trans hx762_0; have hx763_0 := (hb9.cell (World.block_lt_of_cell? _ _ hx763_0)).trans hx763_0; go_simp; with_reducible rfl)))); (focus (simp only [Act.put, List.setIfInBounds_toArray, List.set_cons_zero, List.set_cons_succ, i64_w, i32_w]; rfl)))
                                          refine qb_nil ?_
                                          intro w100 hb
                                          have n0_ := Aside0.mk (blk_below BK748.out hb)
                                          have n1_ := Aside0.mk (blk_below BK749.out hb)
                                          have n2_ := Aside0.mk (below_step HB.out hb)
                                          clear BK748
                                          clear BK749
                                          clear HB
                                          have BK748 := n0_
                                          have BK749 := n1_
                                          have HB := n2_
                                          clear n0_ n1_ n2_
                                          clear hb
                                          (try clear HQ)
                                          try go_wp2
                                          go_roundg k3
                                          case measure => have := HJ3.out; have := HK2.out; have := HK3.out; omega
                                          case rel => exact ⟨(wrap64 (x8_3 + 1)), (by first | rfl | (simp; done) | (simp [*]; done)), H', ⟨by have := HJ3.out; have := HK2.out; have := HK3.out; omega⟩, ⟨by (with_reducible repeat (first | refine blk_drewN ?_ _ | refine blk_drew ?_ | refine blk_alloc ?_ _)); exact BK748.out⟩, ⟨by (with_reducible repeat (first | refine blk_drewN ?_ _ | refine blk_drew ?_ | refine blk_alloc ?_ _)); exact BK749.out⟩, ⟨by repeat (first | (with_reducible first | exact HB.out | apply below_alloc | apply pw_below_drewN | apply below_drew1 | refine below_set ?_ GE748.out | refine below_set ?_ GE749.out) | exact HB.out)⟩⟩
                                      · rw [if_neg c70] at H
                                        have c70b0 : ((rd l2 t760) == t764) = false := beq_eq_false_iff_ne.mpr c70
                                        have c70b1 : ((rd l2 t760) != t764) = true := bne_iff_ne.mpr c70
                                        obtain rfl := Option.some.inj H
                                        have hnb101 := NB748_749.out
                                        have hnc101 := NB749_748.out
                                        have hcz102_0 : wr.cell? ⟨gb748, 0, none⟩ = some (.int .i64 a0_0) := (blk_cell BK748.out 0).trans rfl
                                        have hcz102_1 : wr.cell? ⟨gb748, 1, none⟩ = some (.slice A0_1 l0_1.length c0_1) := (blk_cell BK748.out 1).trans rfl
                                        have hcz102_2 : wr.cell? ⟨gb748, 2, none⟩ = some (.slice A0_2 l0_2.length c0_2) := (blk_cell BK748.out 2).trans rfl
                                        have hcz102_3 : wr.cell? ⟨gb748, 3, none⟩ = some (.slice A0_3 l0_3.length c0_3) := (blk_cell BK748.out 3).trans rfl
                                        have hfz102_0 := blk_frozen BK748.out 0
                                        have hfz102_1 := blk_frozen BK748.out 1
                                        have hfz102_2 := blk_frozen BK748.out 2
                                        have hfz102_3 := blk_frozen BK748.out 3
                                        try go_wp2
                                        have p756 : 0 ≤ (t755 : Int) := of_decide_eq_true (by first | (with_reducible assumption) | assumption)
                                        have q756 : t755 < (l2.length : Int) := of_decide_eq_true (by first | (with_reducible assumption) | assumption)
                                        obtain ⟨ad756, e756, hx756_0⟩ := Kd.at_int HR2.out t755 p756 q756
                                        cases e756
                                        replace hx756_0 := (HB.out.cell (World.block_lt_of_cell? w _ hx756_0)).trans hx756_0
                                        replace p756 := eq_true p756
                                        replace q756 := eq_true q756
                                        have p757 : 0 ≤ (x7_2 : Int) := of_decide_eq_true (by first | (with_reducible assumption) | assumption)
                                        have q757 : x7_2 < (l2.length : Int) := of_decide_eq_true (by first | (with_reducible assumption) | assumption)
                                        obtain ⟨ad757, e757, hx757_0⟩ := Kd.at_int HR2.out x7_2 p757 q757
                                        obtain rfl : ad756 = ad757 := (by injection e757)
                                        replace hx757_0 := (HB.out.cell (World.block_lt_of_cell? w _ hx757_0)).trans hx757_0
                                        replace p757 := eq_true p757
                                        replace q757 := eq_true q757
                                        have p758 : 0 ≤ (x8_3 : Int) := of_decide_eq_true (by first | (with_reducible assumption) | assumption)
                                        have q758 : x8_3 < (l2.length : Int) := of_decide_eq_true (by first | (with_reducible assumption) | assumption)
                                        obtain ⟨ad758, e758, hx758_0⟩ := Kd.at_int HR2.out x8_3 p758 q758
                                        obtain rfl : ad756 = ad758 := (by injection e758)
                                        replace hx758_0 := (HB.out.cell (World.block_lt_of_cell? w _ hx758_0)).trans hx758_0
                                        replace p758 := eq_true p758
                                        replace q758 := eq_true q758
                                        have p761 : 0 ≤ (t760 : Int) := of_decide_eq_true (by first | (with_reducible assumption) | assumption)
                                        have q761 : t760 < (l2.length : Int) := of_decide_eq_true (by first | (with_reducible assumption) | assumption)
                                        obtain ⟨ad761, e761, hx761_0⟩ := Kd.at_int HR2.out t760 p761 q761
                                        obtain rfl : ad756 = ad761 := (by injection e761)
                                        replace hx761_0 := (HB.out.cell (World.block_lt_of_cell? w _ hx761_0)).trans hx761_0
                                        replace p761 := eq_true p761
                                        replace q761 := eq_true q761
                                        have p762 : 0 ≤ (x7_2 : Int) := of_decide_eq_true (by first | (with_reducible assumption) | assumption)
                                        have q762 : x7_2 < (l2.length : Int) := of_decide_eq_true (by first | (with_reducible assumption) | assumption)
                                        obtain ⟨ad762, e762, hx762_0⟩ := Kd.at_int HR2.out x7_2 p762 q762
                                        obtain rfl : ad756 = ad762 := (by injection e762)
                                        replace hx762_0 := (HB.out.cell (World.block_lt_of_cell? w _ hx762_0)).trans hx762_0
                                        replace p762 := eq_true p762
                                        replace q762 := eq_true q762
                                        have p763 : 0 ≤ (x8_3 : Int) := of_decide_eq_true (by first | (with_reducible assumption) | assumption)
                                        have q763 : x8_3 < (l2.length : Int) := of_decide_eq_true (by first | (with_reducible assumption) | assumption)
                                        obtain ⟨ad763, e763, hx763_0⟩ := Kd.at_int HR2.out x8_3 p763 q763
                                        obtain rfl : ad756 = ad763 := (by injection e763)
                                        replace hx763_0 := (HB.out.cell (World.block_lt_of_cell? w _ hx763_0)).trans hx763_0
                                        replace p763 := eq_true p763
                                        replace q763 := eq_true q763
                                        refine qb_region (by kernel_rfl) (by kernel_rfl) ?_
                                        have HQ := fun (wq : World) (hq : Below wr.heap.size wr wq) => below_step HB.out hq
                                        repeat ((first | (apply qb_skip; (focus rfl)) | (refine qb_callN 57 rfl ?_; apply qb_call 57 rfl Try.func53 (by kernel_rfl) rfl rfl; (focus rfl); (focus (exact fun wq9 hb9 => qb_b hb9 (impl_System_plus.calls a0_0 _ _ l0_1 _ _ l0_2 _ _ l0_3 x7_2 x8_3 t755 _ (Kd.C_below HR0_1.out (HQ _ hb9)) HC0_1.out (Kd.C_below HR0_2.out (HQ _ hb9)) HC0_2.out (Kd.C_below HR0_3.out (HQ _ hb9)) HC0_3.out A57.out))); (focus (rfl))) | (refine qb_callN 69 rfl ?_; apply qb_call 69 rfl Try.func53 (by kernel_rfl) rfl rfl; (focus rfl); (focus (exact fun wq9 hb9 => qb_b hb9 (impl_System_plus.calls a1_0 _ _ l1_1 _ _ l1_2 _ _ l1_3 (rd l2 x7_2) (rd l2 x8_3) t759 _ (Kd.C_below HR1_1.out (HQ _ hb9)) HC1_1.out (Kd.C_below HR1_2.out (HQ _ hb9)) HC1_2.out (Kd.C_below HR1_3.out (HQ _ hb9)) HC1_3.out A64.out))); (focus (rfl))) | (refine qb_callN 76 rfl ?_; apply qb_call 76 rfl Try.func54 (by kernel_rfl) rfl rfl; (focus rfl); (focus (exact fun wq9 hb9 => qb_b hb9 (impl_System_times.calls a0_0 _ _ l0_1 _ _ l0_2 _ _ l0_3 x7_2 x8_3 t760 _ (Kd.C_below HR0_1.out (HQ _ hb9)) HC0_1.out (Kd.C_below HR0_2.out (HQ _ hb9)) HC0_2.out (Kd.C_below HR0_3.out (HQ _ hb9)) HC0_3.out A66.out))); (focus (rfl))) | (refine qb_callN 88 rfl ?_; apply qb_call 88 rfl Try.func54 (by kernel_rfl) rfl rfl; (focus rfl); (focus (exact fun wq9 hb9 => qb_b hb9 (impl_System_times.calls a1_0 _ _ l1_1 _ _ l1_2 _ _ l1_3 (rd l2 x7_2) (rd l2 x8_3) t764 _ (Kd.C_below HR1_1.out (HQ _ hb9)) HC1_1.out (Kd.C_below HR1_2.out (HQ _ hb9)) HC1_2.out (Kd.C_below HR1_3.out (HQ _ hb9)) HC1_3.out A69.out))); (focus (rfl))) | (apply qb_val; (focus rfl); (focus (intro wq9 _; go_simp; with_reducible rfl))) | (apply qb_val; (focus rfl); (focus (intro wq9 hb9_; have hb9 : Below wr.heap.size wr wq9 := hb9_; have BK748 := Aside0.mk (blk_below BK748.out hb9); have BK749 := Aside0.mk (blk_below BK749.out hb9); have hc9_748_0 : wq9.cell? ⟨gb748, 0, none⟩ = some (.int .i64 a0_0) := (blk_cell BK748.out 0).trans rfl; have hc9_748_1 : wq9.cell? ⟨gb748, 1, none⟩ = some (.slice A0_1 l0_1.length c0_1) := (blk_cell BK748.out 1).trans rfl; have hc9_748_2 : wq9.cell? ⟨gb748, 2, none⟩ = some (.slice A0_2 l0_2.length c0_2) := (blk_cell BK748.out 2).trans rfl; have hc9_748_3 : wq9.cell? ⟨gb748, 3, none⟩ = some (.slice A0_3 l0_3.length c0_3) := (blk_cell BK748.out 3).trans rfl; have hc9_749_0 : wq9.cell? ⟨gb749, 0, none⟩ = some (.int .i64 a1_0) := (blk_cell BK749.out 0).trans rfl; have hc9_749_1 : wq9.cell? ⟨gb749, 1, none⟩ = some (.slice A1_1 l1_1.length c1_1) := (blk_cell BK749.out 1).trans rfl; have hc9_749_2 : wq9.cell? ⟨gb749, 2, none⟩ = some (.slice A1_2 l1_2.length c1_2) := (blk_cell BK749.out 2).trans rfl; have hc9_749_3 : wq9.cell? ⟨gb749, 3, none⟩ = some (.slice A1_3 l1_3.length c1_3) := (blk_cell BK749.out 3).trans rfl; have hx756_0 := (hb9.cell (World.block_lt_of_cell? _ _ hx756_0)).trans hx756_0; have hx757_0 := (hb9.cell (World.block_lt_of_cell? _ _ hx757_0)).trans hx757_0; have hx758_0 := (hb9.cell (World.block_lt_of_cell? _ _ hx758_0)).trans hx758_0; have hx761_0 := (hb9.cell (World.block_lt_of_cell? _ _ hx761_0)).trans hx761_0; have hx762_0 := (hb9.cell (World.block_lt_of_cell? _ _ hx762_0)).trans hx762_0; have hx763_0 := (hb9.cell (World.block_lt_of_cell? _ _ hx763_0)).trans hx763_0; go_simp; with_reducible rfl)))); (focus (simp only [Act.put, List.setIfInBounds_toArray, List.set_cons_zero, List.set_cons_succ, i64_w, i32_w]; rfl)))
                                        refine qb_nil ?_
                                        intro w107 hb
                                        have n0_ := Aside0.mk (blk_below BK748.out hb)
                                        have n1_ := Aside0.mk (blk_below BK749.out hb)
                                        have n2_ := Aside0.mk (below_step HB.out hb)
                                        clear BK748
                                        clear BK749
                                        clear HB
                                        have BK748 := n0_
                                        have BK749 := n1_
                                        have HB := n2_
                                        clear n0_ n1_ n2_
                                        clear hb
                                        (try clear HQ)
                                        try go_wp2
                                        go_ret
                                        exact ⟨by first | rfl | (simp [errW_none, errW_some] <;> rfl) | (simp [*, errW_none, errW_some] <;> rfl), by repeat (first | (with_reducible first | exact HB.out | apply below_alloc | apply pw_below_drewN | apply below_drew1 | refine below_set ?_ GE748.out | refine below_set ?_ GE749.out) | exact HB.out)⟩
                                    · rw [if_neg c68] at H
                                      exact absurd H (by simp)
                                  · rw [if_neg c67] at H
                                    exact absurd H (by simp)
                                · rw [if_neg c65] at H
                                  have c65b0 : ((rd l2 t755) == t759) = false := beq_eq_false_iff_ne.mpr c65
                                  have c65b1 : ((rd l2 t755) != t759) = true := bne_iff_ne.mpr c65
                                  obtain rfl := Option.some.inj H
                                  have hnb108 := NB748_749.out
                                  have hnc108 := NB749_748.out
                                  have hcz109_0 : wr.cell? ⟨gb748, 0, none⟩ = some (.int .i64 a0_0) := (blk_cell BK748.out 0).trans rfl
                                  have hcz109_1 : wr.cell? ⟨gb748, 1, none⟩ = some (.slice A0_1 l0_1.length c0_1) := (blk_cell BK748.out 1).trans rfl
                                  have hcz109_2 : wr.cell? ⟨gb748, 2, none⟩ = some (.slice A0_2 l0_2.length c0_2) := (blk_cell BK748.out 2).trans rfl
                                  have hcz109_3 : wr.cell? ⟨gb748, 3, none⟩ = some (.slice A0_3 l0_3.length c0_3) := (blk_cell BK748.out 3).trans rfl
                                  have hfz109_0 := blk_frozen BK748.out 0
                                  have hfz109_1 := blk_frozen BK748.out 1
                                  have hfz109_2 := blk_frozen BK748.out 2
                                  have hfz109_3 := blk_frozen BK748.out 3
                                  try go_wp2
                                  have p756 : 0 ≤ (t755 : Int) := of_decide_eq_true (by first | (with_reducible assumption) | assumption)
                                  have q756 : t755 < (l2.length : Int) := of_decide_eq_true (by first | (with_reducible assumption) | assumption)
                                  obtain ⟨ad756, e756, hx756_0⟩ := Kd.at_int HR2.out t755 p756 q756
                                  cases e756
                                  replace hx756_0 := (HB.out.cell (World.block_lt_of_cell? w _ hx756_0)).trans hx756_0
                                  replace p756 := eq_true p756
                                  replace q756 := eq_true q756
                                  have p757 : 0 ≤ (x7_2 : Int) := of_decide_eq_true (by first | (with_reducible assumption) | assumption)
                                  have q757 : x7_2 < (l2.length : Int) := of_decide_eq_true (by first | (with_reducible assumption) | assumption)
                                  obtain ⟨ad757, e757, hx757_0⟩ := Kd.at_int HR2.out x7_2 p757 q757
                                  obtain rfl : ad756 = ad757 := (by injection e757)
                                  replace hx757_0 := (HB.out.cell (World.block_lt_of_cell? w _ hx757_0)).trans hx757_0
                                  replace p757 := eq_true p757
                                  replace q757 := eq_true q757
                                  have p758 : 0 ≤ (x8_3 : Int) := of_decide_eq_true (by first | (with_reducible assumption) | assumption)
                                  have q758 : x8_3 < (l2.length : Int) := of_decide_eq_true (by first | (with_reducible assumption) | assumption)
                                  obtain ⟨ad758, e758, hx758_0⟩ := Kd.at_int HR2.out x8_3 p758 q758
                                  obtain rfl : ad756 = ad758 := (by injection e758)
                                  replace hx758_0 := (HB.out.cell (World.block_lt_of_cell? w _ hx758_0)).trans hx758_0
                                  replace p758 := eq_true p758
                                  replace q758 := eq_true q758
                                  refine qb_region (by kernel_rfl) (by kernel_rfl) ?_
                                  have HQ := fun (wq : World) (hq : Below wr.heap.size wr wq) => below_step HB.out hq
                                  repeat ((first | (apply qb_skip; (focus rfl)) | (refine qb_callN 57 rfl ?_; apply qb_call 57 rfl Try.func53 (by kernel_rfl) rfl rfl; (focus rfl); (focus (exact fun wq9 hb9 => qb_b hb9 (impl_System_plus.calls a0_0 _ _ l0_1 _ _ l0_2 _ _ l0_3 x7_2 x8_3 t755 _ (Kd.C_below HR0_1.out (HQ _ hb9)) HC0_1.out (Kd.C_below HR0_2.out (HQ _ hb9)) HC0_2.out (Kd.C_below HR0_3.out (HQ _ hb9)) HC0_3.out A57.out))); (focus (rfl))) | (refine qb_callN 69 rfl ?_; apply qb_call 69 rfl Try.func53 (by kernel_rfl) rfl rfl; (focus rfl); (focus (exact fun wq9 hb9 => qb_b hb9 (impl_System_plus.calls a1_0 _ _ l1_1 _ _ l1_2 _ _ l1_3 (rd l2 x7_2) (rd l2 x8_3) t759 _ (Kd.C_below HR1_1.out (HQ _ hb9)) HC1_1.out (Kd.C_below HR1_2.out (HQ _ hb9)) HC1_2.out (Kd.C_below HR1_3.out (HQ _ hb9)) HC1_3.out A64.out))); (focus (rfl))) | (apply qb_val; (focus rfl); (focus (intro wq9 _; go_simp; with_reducible rfl))) | (apply qb_val; (focus rfl); (focus (intro wq9 hb9_; have hb9 : Below wr.heap.size wr wq9 := hb9_; have BK748 := Aside0.mk (blk_below BK748.out hb9); have BK749 := Aside0.mk (blk_below BK749.out hb9); have hc9_748_0 : wq9.cell? ⟨gb748, 0, none⟩ = some (.int .i64 a0_0) := (blk_cell BK748.out 0).trans rfl; have hc9_748_1 : wq9.cell? ⟨gb748, 1, none⟩ = some (.slice A0_1 l0_1.length c0_1) := (blk_cell BK748.out 1).trans rfl; have hc9_748_2 : wq9.cell? ⟨gb748, 2, none⟩ = some (.slice A0_2 l0_2.length c0_2) := (blk_cell BK748.out 2).trans rfl; have hc9_748_3 : wq9.cell? ⟨gb748, 3, none⟩ = some (.slice A0_3 l0_3.length c0_3) := (blk_cell BK748.out 3).trans rfl; have hc9_749_0 : wq9.cell? ⟨gb749, 0, none⟩ = some (.int .i64 a1_0) := (blk_cell BK749.out 0).trans rfl; have hc9_749_1 : wq9.cell? ⟨gb749, 1, none⟩ = some (.slice A1_1 l1_1.length c1_1) := (blk_cell BK749.out 1).trans rfl; have hc9_749_2 : wq9.cell? ⟨gb749, 2, none⟩ = some (.slice A1_2 l1_2.length c1_2) := (blk_cell BK749.out 2).trans rfl; have hc9_749_3 : wq9.cell? ⟨gb749, 3, none⟩ = some (.slice A1_3 l1_3.length c1_3) := (blk_cell BK749.out 3).trans rfl; have hx756_0 := (hb9.cell (World.block_lt_of_cell? _ _ hx756_0)).trans hx756_0; have hx757_0 := (hb9.cell (World.block_lt_of_cell? _ _ hx757_0)).trans hx757_0; have hx758_0 := (hb9.cell (World.block_lt_of_cell? _ _ hx758_0)).trans hx758_0; go_simp; with_reducible rfl)))); (focus (simp only [Act.put, List.setIfInBounds_toArray, List.set_cons_zero, List.set_cons_succ, i64_w, i32_w]; rfl)))
                                  refine qb_nil ?_
                                  intro w112 hb
                                  have n0_ := Aside0.mk (blk_below BK748.out hb)
                                  have n1_ := Aside0.mk (blk_below BK749.out hb)
                                  have n2_ := Aside0.mk (below_step HB.out hb)
                                  clear BK748
                                  clear BK749
                                  clear HB
                                  have BK748 := n0_
                                  have BK749 := n1_
                                  have HB := n2_
                                  clear n0_ n1_ n2_
                                  clear hb
                                  (try clear HQ)
                                  try go_wp2
                                  go_ret
                                  exact ⟨by first | rfl | (simp [errW_none, errW_some] <;> rfl) | (simp [*, errW_none, errW_some] <;> rfl), by repeat (first | (with_reducible first | exact HB.out | apply below_alloc | apply pw_below_drewN | apply below_drew1 | refine below_set ?_ GE748.out | refine below_set ?_ GE749.out) | exact HB.out)⟩
                              · rw [if_neg c63] at H
                                exact absurd H (by simp)
                            · rw [if_neg c62] at H
                              exact absurd H (by simp)
                          · rw [if_neg c61] at H
                            exact absurd H (by simp)
                        · rw [if_neg c60] at H
                          exact absurd H (by simp)
                      · rw [if_neg c59] at H
                        exact absurd H (by simp)
                    · rw [if_neg c58] at H
                      exact absurd H (by simp)
                  · rw [if_neg c56] at H
                    have c56b0 : decide (x8_3 < a0_0) = false := decide_eq_false c56
                    clear c56
                    have H' := Aside0.mk H
                    clear H
                    have hnb113 := NB748_749.out
                    have hnc113 := NB749_748.out
                    have hcz114_0 : wr.cell? ⟨gb748, 0, none⟩ = some (.int .i64 a0_0) := (blk_cell BK748.out 0).trans rfl
                    have hcz114_1 : wr.cell? ⟨gb748, 1, none⟩ = some (.slice A0_1 l0_1.length c0_1) := (blk_cell BK748.out 1).trans rfl
                    have hcz114_2 : wr.cell? ⟨gb748, 2, none⟩ = some (.slice A0_2 l0_2.length c0_2) := (blk_cell BK748.out 2).trans rfl
                    have hcz114_3 : wr.cell? ⟨gb748, 3, none⟩ = some (.slice A0_3 l0_3.length c0_3) := (blk_cell BK748.out 3).trans rfl
                    have hfz114_0 := blk_frozen BK748.out 0
                    have hfz114_1 := blk_frozen BK748.out 1
                    have hfz114_2 := blk_frozen BK748.out 2
                    have hfz114_3 := blk_frozen BK748.out 3
                    go_wp2
                    go_roundg k3
                    case measure => have := HJ3.out; have := HK2.out; have := HK3.out; omega
                    case rel => exact ⟨(wrap64 (x7_2 + 1)), (by first | rfl | (simp; done) | (simp [*]; done)), H', ⟨by have := HJ3.out; have := HK2.out; have := HK3.out; omega⟩, ⟨by (with_reducible repeat (first | refine blk_drewN ?_ _ | refine blk_drew ?_ | refine blk_alloc ?_ _)); exact BK748.out⟩, ⟨by (with_reducible repeat (first | refine blk_drewN ?_ _ | refine blk_drew ?_ | refine blk_alloc ?_ _)); exact BK749.out⟩, ⟨by repeat (first | (with_reducible first | exact HB.out | apply below_alloc | apply pw_below_drewN | apply below_drew1 | refine below_set ?_ GE748.out | refine below_set ?_ GE749.out) | exact HB.out)⟩⟩
            · rw [if_neg c53] at H
              have c53b0 : decide (x7_2 < a0_0) = false := decide_eq_false c53
              clear c53
              obtain rfl := Option.some.inj H
              have hnb115 := NB748_749.out
              have hnc115 := NB749_748.out
              have hcz116_0 : wr.cell? ⟨gb748, 0, none⟩ = some (.int .i64 a0_0) := (blk_cell BK748.out 0).trans rfl
              have hcz116_1 : wr.cell? ⟨gb748, 1, none⟩ = some (.slice A0_1 l0_1.length c0_1) := (blk_cell BK748.out 1).trans rfl
              have hcz116_2 : wr.cell? ⟨gb748, 2, none⟩ = some (.slice A0_2 l0_2.length c0_2) := (blk_cell BK748.out 2).trans rfl
              have hcz116_3 : wr.cell? ⟨gb748, 3, none⟩ = some (.slice A0_3 l0_3.length c0_3) := (blk_cell BK748.out 3).trans rfl
              have hfz116_0 := blk_frozen BK748.out 0
              have hfz116_1 := blk_frozen BK748.out 1
              have hfz116_2 := blk_frozen BK748.out 2
              have hfz116_3 := blk_frozen BK748.out 3
              go_wp2
              go_ret
              exact ⟨by first | rfl | (simp [errW_none, errW_some] <;> rfl) | (simp [*, errW_none, errW_some] <;> rfl), by repeat (first | (with_reducible first | exact HB.out | apply below_alloc | apply pw_below_drewN | apply below_drew1 | refine below_set ?_ GE748.out | refine below_set ?_ GE749.out) | exact HB.out)⟩

end Go.Proofs.Ythdbijjkcoafiaa.P
