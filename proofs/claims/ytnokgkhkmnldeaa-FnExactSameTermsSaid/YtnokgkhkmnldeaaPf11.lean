-- Printed by this session's own program (wip/tools/mkprint.py) out of the translation. Not trusted: Lean checks it.
import Derived.Test.YtnokgkhkmnldeaaP0
import Derived.Test.YtnokgkhkmnldeaaPf31
import Derived.Test.YtnokgkhkmnldeaaPf33
import Derived.Test.YtnokgkhkmnldeaaPf35
import Derived.Test.YtnokgkhkmnldeaaPf42
import Derived.Test.YtnokgkhkmnldeaaPf43
namespace Go.Proofs.Ytnokgkhkmnldeaa.P
open Go.RowKit Go.Proofs.YtnokgkhkmnldeaaW.PrintWords Go.Proofs.YtnokgkhkmnldeaaW.PrintLast Go.Proofs.YtnokgkhkmnldeaaW.PrintMore
attribute [local go_sem] max2_int min2_int max_two min_two max_three min_three max_four min_four   -- for this text's walks alone
set_option linter.unusedVariables false
set_option linter.unusedSimpArgs false

/-! ### laws_FnExactSameTerms: function 11 -/
def laws_FnExactSameTerms.f (k : Nat) (a0_0 : Int) (a0_1 : Int) (l0_2 : List Int) (l0_3 : List (S43)) (a1_0 : Int) (a1_1 : Int) (l1_2 : List Int) (l1_3 : List (S43)) : Option (Bool) := (laws_szTerm.f k a0_0 a0_1 l0_2 l0_3 1048576).bind fun t810 => (if t810 < 0 then (some true) else ((laws_szTerm.f k a1_0 a1_1 l1_2 l1_3 t810).bind fun t811 => (if t811 < 0 then (some true) else ((laws_toTerm.f k a0_0 a0_1 l0_2 l0_3).bind fun bt812 => ((laws_toTerm.f k a1_0 a1_1 l1_2 l1_3).bind fun bt820 => ((spec_SameTerms.f k bt812.1 bt812.2.1 bt812.2.2.1 bt812.2.2.2 bt820.1 bt820.2.1 bt820.2.2.1 bt820.2.2.2).bind fun t828 => ((laws_toTerm.f k a0_0 a0_1 l0_2 l0_3).bind fun bt829 => ((laws_toTerm.f k a1_0 a1_1 l1_2 l1_3).bind fun bt838 => ((impl_SameTerms.f k bt829.1 bt829.2.1 bt829.2.2.1 bt829.2.2.2 bt838.1 bt838.2.1 bt838.2.2.1 bt838.2.2.2).bind fun t847 => (if (t847 != t828) = true then (some false) else ((laws_toTerm.f k a0_0 a0_1 l0_2 l0_3).bind fun bt848 => ((laws_eqTerm.f k bt829.1 bt829.2.1 bt829.2.2.1 bt829.2.2.2 bt848.1 bt848.2.1 bt848.2.2.1 bt848.2.2.2).bind fun t856 => (if t856 = true then ((laws_toTerm.f k a1_0 a1_1 l1_2 l1_3).bind fun bt857 => ((laws_eqTerm.f k bt838.1 bt838.2.1 bt838.2.2.1 bt838.2.2.2 bt857.1 bt857.2.1 bt857.2.2.1 bt857.2.2.2).bind fun t865 => (if t865 = true then (some true) else (some false)))) else (some false))))))))))))))
set_option maxHeartbeats 8000000 in
set_option maxRecDepth 100000 in
theorem laws_FnExactSameTerms.calls (k : Nat) (a0_0 : Int) (a0_1 : Int) (A0_2 : Option Addr) (c0_2 : Nat) (l0_2 : List Int) (A0_3 : Option Addr) (c0_3 : Nat) (l0_3 : List (S43)) (a1_0 : Int) (a1_1 : Int) (A1_2 : Option Addr) (c1_2 : Nat) (l1_2 : List Int) (A1_3 : Option Addr) (c1_3 : Nat) (l1_3 : List (S43)) (r : Bool) (w : World) (hr0_2 : Kd.C (Kd.int .i64) w A0_2 l0_2.length l0_2) (hc0_2 : l0_2.length ≤ c0_2) (hr0_3 : Kd.C k43 w A0_3 l0_3.length l0_3) (hc0_3 : l0_3.length ≤ c0_3) (hr1_2 : Kd.C (Kd.int .i64) w A1_2 l1_2.length l1_2) (hc1_2 : l1_2.length ≤ c1_2) (hr1_3 : Kd.C k43 w A1_3 l1_3.length l1_3) (hc1_3 : l1_3.length ≤ c1_3) (h : laws_FnExactSameTerms.f k a0_0 a0_1 l0_2 l0_3 a1_0 a1_1 l1_2 l1_3 = some r) (hr_ : r = true) :
    Calls Try.prog 11 #[.agg #[.int .i64 a0_0, .int .i64 a0_1, .slice A0_2 l0_2.length c0_2, .slice A0_3 l0_3.length c0_3], .agg #[.int .i64 a1_0, .int .i64 a1_1, .slice A1_2 l1_2.length c1_2, .slice A1_3 l1_3.length c1_3]] w fun e w' => e = .returned (.bool r) ∧ Below w.heap.size w w' := by
  have hu43 := Try.underlying43
  have hu48 := Try.underlying48
  have HR0_2 := Aside0.mk hr0_2
  have HC0_2 := Aside0.mk hc0_2
  clear hr0_2 hc0_2
  have HR0_3 := Aside0.mk hr0_3
  have HC0_3 := Aside0.mk hc0_3
  clear hr0_3 hc0_3
  have HR1_2 := Aside0.mk hr1_2
  have HC1_2 := Aside0.mk hc1_2
  clear hr1_2 hc1_2
  have HR1_3 := Aside0.mk hr1_3
  have HC1_3 := Aside0.mk hc1_3
  clear hr1_3 hc1_3
  have HB := Aside0.mk (Below.refl w.heap.size w)
  have H : ((laws_szTerm.f k a0_0 a0_1 l0_2 l0_3 1048576).bind fun t810 => (if t810 < 0 then (some true) else ((laws_szTerm.f k a1_0 a1_1 l1_2 l1_3 t810).bind fun t811 => (if t811 < 0 then (some true) else ((laws_toTerm.f k a0_0 a0_1 l0_2 l0_3).bind fun bt812 => ((laws_toTerm.f k a1_0 a1_1 l1_2 l1_3).bind fun bt820 => ((spec_SameTerms.f k bt812.1 bt812.2.1 bt812.2.2.1 bt812.2.2.2 bt820.1 bt820.2.1 bt820.2.2.1 bt820.2.2.2).bind fun t828 => ((laws_toTerm.f k a0_0 a0_1 l0_2 l0_3).bind fun bt829 => ((laws_toTerm.f k a1_0 a1_1 l1_2 l1_3).bind fun bt838 => ((impl_SameTerms.f k bt829.1 bt829.2.1 bt829.2.2.1 bt829.2.2.2 bt838.1 bt838.2.1 bt838.2.2.1 bt838.2.2.2).bind fun t847 => (if (t847 != t828) = true then (some false) else ((laws_toTerm.f k a0_0 a0_1 l0_2 l0_3).bind fun bt848 => ((laws_eqTerm.f k bt829.1 bt829.2.1 bt829.2.2.1 bt829.2.2.2 bt848.1 bt848.2.1 bt848.2.2.1 bt848.2.2.2).bind fun t856 => (if t856 = true then ((laws_toTerm.f k a1_0 a1_1 l1_2 l1_3).bind fun bt857 => ((laws_eqTerm.f k bt838.1 bt838.2.1 bt838.2.2.1 bt838.2.2.2 bt857.1 bt857.2.1 bt857.2.2.1 bt857.2.2.2).bind fun t865 => (if t865 = true then (some true) else (some false)))) else (some false))))))))))))))) = some r := h
  clear h
  replace H := Option.bind_eq_some_iff.mp H
  obtain ⟨t810, A30, H⟩ := H
  replace H : (if t810 < 0 then (some true) else ((laws_szTerm.f k a1_0 a1_1 l1_2 l1_3 t810).bind fun t811 => (if t811 < 0 then (some true) else ((laws_toTerm.f k a0_0 a0_1 l0_2 l0_3).bind fun bt812 => ((laws_toTerm.f k a1_0 a1_1 l1_2 l1_3).bind fun bt820 => ((spec_SameTerms.f k bt812.1 bt812.2.1 bt812.2.2.1 bt812.2.2.2 bt820.1 bt820.2.1 bt820.2.2.1 bt820.2.2.2).bind fun t828 => ((laws_toTerm.f k a0_0 a0_1 l0_2 l0_3).bind fun bt829 => ((laws_toTerm.f k a1_0 a1_1 l1_2 l1_3).bind fun bt838 => ((impl_SameTerms.f k bt829.1 bt829.2.1 bt829.2.2.1 bt829.2.2.2 bt838.1 bt838.2.1 bt838.2.2.1 bt838.2.2.2).bind fun t847 => (if (t847 != t828) = true then (some false) else ((laws_toTerm.f k a0_0 a0_1 l0_2 l0_3).bind fun bt848 => ((laws_eqTerm.f k bt829.1 bt829.2.1 bt829.2.2.1 bt829.2.2.2 bt848.1 bt848.2.1 bt848.2.2.1 bt848.2.2.2).bind fun t856 => (if t856 = true then ((laws_toTerm.f k a1_0 a1_1 l1_2 l1_3).bind fun bt857 => ((laws_eqTerm.f k bt838.1 bt838.2.1 bt838.2.2.1 bt838.2.2.2 bt857.1 bt857.2.1 bt857.2.2.1 bt857.2.2.2).bind fun t865 => (if t865 = true then (some true) else (some false)))) else (some false)))))))))))))) = some r := H
  have A3 := Aside0.mk A30
  clear A30
  by_cases c4 : t810 < 0
  · rw [if_pos c4] at H
    have c4b0 : decide (t810 < 0) = true := decide_eq_true c4
    clear c4
    obtain rfl := Option.some.inj H
    go_enter Try.func11, Try.ntmps11
    go_wp2_with (first | ((with_reducible refine gate_dst (N := 2) rfl ?_); refine box_event ?hg (N := 2) ?hd (cs := #[.int .i64 a0_0, .int .i64 a0_1, .slice A0_2 l0_2.length c0_2, .slice A0_3 l0_3.length c0_3]) (t := 43) ?hr ?_; (case hd => rfl); (case hg => rfl); (case hr => first | (go_simp; done) | (go_simp; rfl)); intro gb808 hg w5 hbox hb; have n0_ := Aside0.mk (below_step (by repeat (first | (with_reducible first | exact HB.out | apply below_alloc | apply pw_below_drewN | apply below_drew1) | exact HB.out)) hb); have n1_ := Aside0.mk (hbox); have n2_ := Aside0.mk ((by rw [hg]; exact (below_size (by repeat (first | (with_reducible first | exact HB.out | apply below_alloc | apply pw_below_drewN | apply below_drew1) | exact HB.out))) : w.heap.size ≤ gb808)); have n3_ := Aside0.mk ((by rw [hg]; exact (below_size (by repeat (first | (with_reducible first | exact HB.out | apply below_alloc | apply pw_below_drewN | apply below_drew1) | exact HB.out))) : w.heap.size ≤ gb808)); clear HB; have HB := n0_; have BK808 := n1_; have GW808 := n2_; have GE808 := n3_; clear n0_ n1_ n2_ n3_; clear hb hbox hg) | ((with_reducible refine gate_dst (N := 3) rfl ?_); refine box_event ?hg (N := 3) ?hd (cs := #[.int .i64 a1_0, .int .i64 a1_1, .slice A1_2 l1_2.length c1_2, .slice A1_3 l1_3.length c1_3]) (t := 43) ?hr ?_; (case hd => rfl); (case hg => rfl); (case hr => first | (go_simp; done) | (go_simp; rfl)); intro gb809 hg w6 hbox hb; have n0_ := Aside0.mk (blk_below (g := gb808) (o := .cells #[.int .i64 a0_0, .int .i64 a0_1, .slice A0_2 l0_2.length c0_2, .slice A0_3 l0_3.length c0_3] 43 (0, 0)) (by (with_reducible repeat (first | refine blk_drewN ?_ _ | refine blk_drew ?_ | refine blk_alloc ?_ _)); exact BK808.out) hb); have n1_ := Aside0.mk (below_step (by repeat (first | (with_reducible first | exact HB.out | apply below_alloc | apply pw_below_drewN | apply below_drew1 | refine below_set ?_ GE808.out) | exact HB.out)) hb); have n2_ := Aside0.mk (hbox); have n3_ := Aside0.mk ((by rw [hg]; exact (below_size (by repeat (first | (with_reducible first | exact HB.out | apply below_alloc | apply pw_below_drewN | apply below_drew1 | refine below_set ?_ GE808.out) | exact HB.out))) : w.heap.size ≤ gb809)); have n4_ := Aside0.mk ((by rw [hg]; exact (below_size (by repeat (first | (with_reducible first | exact HB.out | apply below_alloc | apply pw_below_drewN | apply below_drew1 | refine below_set ?_ GE808.out) | exact HB.out))) : w.heap.size ≤ gb809)); have n5_ := Aside0.mk ((by rw [hg]; exact Nat.ne_of_lt (blk_lt (g := gb808) (o := .cells #[.int .i64 a0_0, .int .i64 a0_1, .slice A0_2 l0_2.length c0_2, .slice A0_3 l0_3.length c0_3] 43 (0, 0)) (by (with_reducible repeat (first | refine blk_drewN ?_ _ | refine blk_drew ?_ | refine blk_alloc ?_ _)); exact BK808.out)) : gb808 ≠ gb809)); have n6_ := Aside0.mk ((by rw [hg]; exact Nat.ne_of_gt (blk_lt (g := gb808) (o := .cells #[.int .i64 a0_0, .int .i64 a0_1, .slice A0_2 l0_2.length c0_2, .slice A0_3 l0_3.length c0_3] 43 (0, 0)) (by (with_reducible repeat (first | refine blk_drewN ?_ _ | refine blk_drew ?_ | refine blk_alloc ?_ _)); exact BK808.out)) : gb809 ≠ gb808)); clear BK808; clear HB; have BK808 := n0_; have HB := n1_; have BK809 := n2_; have GW809 := n3_; have GE809 := n4_; have NB808_809 := n5_; have NB809_808 := n6_; clear n0_ n1_ n2_ n3_ n4_ n5_ n6_; clear hb hbox hg; have hnb7 := NB808_809.out; have hnc7 := NB809_808.out; have hcz8_0 : w6.cell? ⟨gb808, 0, none⟩ = some (.int .i64 a0_0) := (blk_cell BK808.out 0).trans rfl; have hcz8_1 : w6.cell? ⟨gb808, 1, none⟩ = some (.int .i64 a0_1) := (blk_cell BK808.out 1).trans rfl; have hcz8_2 : w6.cell? ⟨gb808, 2, none⟩ = some (.slice A0_2 l0_2.length c0_2) := (blk_cell BK808.out 2).trans rfl; have hcz8_3 : w6.cell? ⟨gb808, 3, none⟩ = some (.slice A0_3 l0_3.length c0_3) := (blk_cell BK808.out 3).trans rfl; have hfz8_0 := blk_frozen BK808.out 0; have hfz8_1 := blk_frozen BK808.out 1; have hfz8_2 := blk_frozen BK808.out 2; have hfz8_3 := blk_frozen BK808.out 3) | ((with_reducible refine gate_callee (f := 31) rfl ?_); refine goesL_ (some 12) rfl rfl Try.func31 (by kernel_rfl) rfl #[.agg #[.int .i64 a0_0, .int .i64 a0_1, .slice A0_2 l0_2.length c0_2, .slice A0_3 l0_3.length c0_3], .int .i64 1048576] rfl (by (try simp only [List.map_toArray, List.map_cons, List.map_nil]); first | done | rfl | (simp only [List.length_drop, List.length_take]; rfl)) ?_; (with_reducible refine (laws_szTerm.calls k a0_0 a0_1 _ _ l0_2 _ _ l0_3 1048576 t810 _ ?side1 ?side2 ?side3 ?side4 A3.out).mono ?_); (case side1 => repeat (first | exact (Kd.C_below HR0_2.out HB.out) | (with_reducible refine Kd.C_alloc ?_ _) | (with_reducible refine Kd.C_drewN ?_ _) | (with_reducible refine Kd.C_drew ?_))); (case side2 => exact HC0_2.out); (case side3 => repeat (first | exact (Kd.C_below HR0_3.out HB.out) | (with_reducible refine Kd.C_alloc ?_ _) | (with_reducible refine Kd.C_drewN ?_ _) | (with_reducible refine Kd.C_drew ?_))); (case side4 => exact HC0_3.out); rintro e w9 ⟨rfl, hb⟩; refine ⟨_, rfl, ?_⟩; have n0_ := Aside0.mk (blk_below (g := gb808) (o := .cells #[.int .i64 a0_0, .int .i64 a0_1, .slice A0_2 l0_2.length c0_2, .slice A0_3 l0_3.length c0_3] 43 (0, 0)) (by (with_reducible repeat (first | refine blk_drewN ?_ _ | refine blk_drew ?_ | refine blk_alloc ?_ _)); exact BK808.out) hb); have n1_ := Aside0.mk (blk_below (g := gb809) (o := .cells #[.int .i64 a1_0, .int .i64 a1_1, .slice A1_2 l1_2.length c1_2, .slice A1_3 l1_3.length c1_3] 43 (0, 0)) (by (with_reducible repeat (first | refine blk_drewN ?_ _ | refine blk_drew ?_ | refine blk_alloc ?_ _)); exact BK809.out) hb); have n2_ := Aside0.mk (below_step (by repeat (first | (with_reducible first | exact HB.out | apply below_alloc | apply pw_below_drewN | apply below_drew1 | refine below_set ?_ GE808.out | refine below_set ?_ GE809.out) | exact HB.out)) hb); clear BK808; clear BK809; clear HB; have BK808 := n0_; have BK809 := n1_; have HB := n2_; clear n0_ n1_ n2_; (try clear hb); (try clear hb2); (try clear hk); (try clear hi)))
    go_ret
    exact ⟨by first | rfl | (simp [errW_none, errW_some] <;> rfl) | (simp [*, errW_none, errW_some] <;> rfl), by repeat (first | (with_reducible first | exact HB.out | apply below_alloc | apply pw_below_drewN | apply below_drew1 | refine below_set ?_ GE808.out | refine below_set ?_ GE809.out) | exact HB.out)⟩
  · rw [if_neg c4] at H
    have c4b0 : decide (t810 < 0) = false := decide_eq_false c4
    clear c4
    replace H := Option.bind_eq_some_iff.mp H
    obtain ⟨t811, A100, H⟩ := H
    replace H : (if t811 < 0 then (some true) else ((laws_toTerm.f k a0_0 a0_1 l0_2 l0_3).bind fun bt812 => ((laws_toTerm.f k a1_0 a1_1 l1_2 l1_3).bind fun bt820 => ((spec_SameTerms.f k bt812.1 bt812.2.1 bt812.2.2.1 bt812.2.2.2 bt820.1 bt820.2.1 bt820.2.2.1 bt820.2.2.2).bind fun t828 => ((laws_toTerm.f k a0_0 a0_1 l0_2 l0_3).bind fun bt829 => ((laws_toTerm.f k a1_0 a1_1 l1_2 l1_3).bind fun bt838 => ((impl_SameTerms.f k bt829.1 bt829.2.1 bt829.2.2.1 bt829.2.2.2 bt838.1 bt838.2.1 bt838.2.2.1 bt838.2.2.2).bind fun t847 => (if (t847 != t828) = true then (some false) else ((laws_toTerm.f k a0_0 a0_1 l0_2 l0_3).bind fun bt848 => ((laws_eqTerm.f k bt829.1 bt829.2.1 bt829.2.2.1 bt829.2.2.2 bt848.1 bt848.2.1 bt848.2.2.1 bt848.2.2.2).bind fun t856 => (if t856 = true then ((laws_toTerm.f k a1_0 a1_1 l1_2 l1_3).bind fun bt857 => ((laws_eqTerm.f k bt838.1 bt838.2.1 bt838.2.2.1 bt838.2.2.2 bt857.1 bt857.2.1 bt857.2.2.1 bt857.2.2.2).bind fun t865 => (if t865 = true then (some true) else (some false)))) else (some false)))))))))))) = some r := H
    have A10 := Aside0.mk A100
    clear A100
    by_cases c11 : t811 < 0
    · rw [if_pos c11] at H
      have c11b0 : decide (t811 < 0) = true := decide_eq_true c11
      clear c11
      obtain rfl := Option.some.inj H
      go_enter Try.func11, Try.ntmps11
      go_wp2_with (first | ((with_reducible refine gate_dst (N := 2) rfl ?_); refine box_event ?hg (N := 2) ?hd (cs := #[.int .i64 a0_0, .int .i64 a0_1, .slice A0_2 l0_2.length c0_2, .slice A0_3 l0_3.length c0_3]) (t := 43) ?hr ?_; (case hd => rfl); (case hg => rfl); (case hr => first | (go_simp; done) | (go_simp; rfl)); intro gb808 hg w12 hbox hb; have n0_ := Aside0.mk (below_step (by repeat (first | (with_reducible first | exact HB.out | apply below_alloc | apply pw_below_drewN | apply below_drew1) | exact HB.out)) hb); have n1_ := Aside0.mk (hbox); have n2_ := Aside0.mk ((by rw [hg]; exact (below_size (by repeat (first | (with_reducible first | exact HB.out | apply below_alloc | apply pw_below_drewN | apply below_drew1) | exact HB.out))) : w.heap.size ≤ gb808)); have n3_ := Aside0.mk ((by rw [hg]; exact (below_size (by repeat (first | (with_reducible first | exact HB.out | apply below_alloc | apply pw_below_drewN | apply below_drew1) | exact HB.out))) : w.heap.size ≤ gb808)); clear HB; have HB := n0_; have BK808 := n1_; have GW808 := n2_; have GE808 := n3_; clear n0_ n1_ n2_ n3_; clear hb hbox hg) | ((with_reducible refine gate_dst (N := 3) rfl ?_); refine box_event ?hg (N := 3) ?hd (cs := #[.int .i64 a1_0, .int .i64 a1_1, .slice A1_2 l1_2.length c1_2, .slice A1_3 l1_3.length c1_3]) (t := 43) ?hr ?_; (case hd => rfl); (case hg => rfl); (case hr => first | (go_simp; done) | (go_simp; rfl)); intro gb809 hg w13 hbox hb; have n0_ := Aside0.mk (blk_below (g := gb808) (o := .cells #[.int .i64 a0_0, .int .i64 a0_1, .slice A0_2 l0_2.length c0_2, .slice A0_3 l0_3.length c0_3] 43 (0, 0)) (by (with_reducible repeat (first | refine blk_drewN ?_ _ | refine blk_drew ?_ | refine blk_alloc ?_ _)); exact BK808.out) hb); have n1_ := Aside0.mk (below_step (by repeat (first | (with_reducible first | exact HB.out | apply below_alloc | apply pw_below_drewN | apply below_drew1 | refine below_set ?_ GE808.out) | exact HB.out)) hb); have n2_ := Aside0.mk (hbox); have n3_ := Aside0.mk ((by rw [hg]; exact (below_size (by repeat (first | (with_reducible first | exact HB.out | apply below_alloc | apply pw_below_drewN | apply below_drew1 | refine below_set ?_ GE808.out) | exact HB.out))) : w.heap.size ≤ gb809)); have n4_ := Aside0.mk ((by rw [hg]; exact (below_size (by repeat (first | (with_reducible first | exact HB.out | apply below_alloc | apply pw_below_drewN | apply below_drew1 | refine below_set ?_ GE808.out) | exact HB.out))) : w.heap.size ≤ gb809)); have n5_ := Aside0.mk ((by rw [hg]; exact Nat.ne_of_lt (blk_lt (g := gb808) (o := .cells #[.int .i64 a0_0, .int .i64 a0_1, .slice A0_2 l0_2.length c0_2, .slice A0_3 l0_3.length c0_3] 43 (0, 0)) (by (with_reducible repeat (first | refine blk_drewN ?_ _ | refine blk_drew ?_ | refine blk_alloc ?_ _)); exact BK808.out)) : gb808 ≠ gb809)); have n6_ := Aside0.mk ((by rw [hg]; exact Nat.ne_of_gt (blk_lt (g := gb808) (o := .cells #[.int .i64 a0_0, .int .i64 a0_1, .slice A0_2 l0_2.length c0_2, .slice A0_3 l0_3.length c0_3] 43 (0, 0)) (by (with_reducible repeat (first | refine blk_drewN ?_ _ | refine blk_drew ?_ | refine blk_alloc ?_ _)); exact BK808.out)) : gb809 ≠ gb808)); clear BK808; clear HB; have BK808 := n0_; have HB := n1_; have BK809 := n2_; have GW809 := n3_; have GE809 := n4_; have NB808_809 := n5_; have NB809_808 := n6_; clear n0_ n1_ n2_ n3_ n4_ n5_ n6_; clear hb hbox hg; have hnb14 := NB808_809.out; have hnc14 := NB809_808.out; have hcz15_0 : w13.cell? ⟨gb808, 0, none⟩ = some (.int .i64 a0_0) := (blk_cell BK808.out 0).trans rfl; have hcz15_1 : w13.cell? ⟨gb808, 1, none⟩ = some (.int .i64 a0_1) := (blk_cell BK808.out 1).trans rfl; have hcz15_2 : w13.cell? ⟨gb808, 2, none⟩ = some (.slice A0_2 l0_2.length c0_2) := (blk_cell BK808.out 2).trans rfl; have hcz15_3 : w13.cell? ⟨gb808, 3, none⟩ = some (.slice A0_3 l0_3.length c0_3) := (blk_cell BK808.out 3).trans rfl; have hfz15_0 := blk_frozen BK808.out 0; have hfz15_1 := blk_frozen BK808.out 1; have hfz15_2 := blk_frozen BK808.out 2; have hfz15_3 := blk_frozen BK808.out 3) | ((with_reducible refine gate_callee (f := 31) rfl ?_); refine goesL_ (some 12) rfl rfl Try.func31 (by kernel_rfl) rfl #[.agg #[.int .i64 a0_0, .int .i64 a0_1, .slice A0_2 l0_2.length c0_2, .slice A0_3 l0_3.length c0_3], .int .i64 1048576] rfl (by (try simp only [List.map_toArray, List.map_cons, List.map_nil]); first | done | rfl | (simp only [List.length_drop, List.length_take]; rfl)) ?_; (with_reducible refine (laws_szTerm.calls k a0_0 a0_1 _ _ l0_2 _ _ l0_3 1048576 t810 _ ?side1 ?side2 ?side3 ?side4 A3.out).mono ?_); (case side1 => repeat (first | exact (Kd.C_below HR0_2.out HB.out) | (with_reducible refine Kd.C_alloc ?_ _) | (with_reducible refine Kd.C_drewN ?_ _) | (with_reducible refine Kd.C_drew ?_))); (case side2 => exact HC0_2.out); (case side3 => repeat (first | exact (Kd.C_below HR0_3.out HB.out) | (with_reducible refine Kd.C_alloc ?_ _) | (with_reducible refine Kd.C_drewN ?_ _) | (with_reducible refine Kd.C_drew ?_))); (case side4 => exact HC0_3.out); rintro e w16 ⟨rfl, hb⟩; refine ⟨_, rfl, ?_⟩; have n0_ := Aside0.mk (blk_below (g := gb808) (o := .cells #[.int .i64 a0_0, .int .i64 a0_1, .slice A0_2 l0_2.length c0_2, .slice A0_3 l0_3.length c0_3] 43 (0, 0)) (by (with_reducible repeat (first | refine blk_drewN ?_ _ | refine blk_drew ?_ | refine blk_alloc ?_ _)); exact BK808.out) hb); have n1_ := Aside0.mk (blk_below (g := gb809) (o := .cells #[.int .i64 a1_0, .int .i64 a1_1, .slice A1_2 l1_2.length c1_2, .slice A1_3 l1_3.length c1_3] 43 (0, 0)) (by (with_reducible repeat (first | refine blk_drewN ?_ _ | refine blk_drew ?_ | refine blk_alloc ?_ _)); exact BK809.out) hb); have n2_ := Aside0.mk (below_step (by repeat (first | (with_reducible first | exact HB.out | apply below_alloc | apply pw_below_drewN | apply below_drew1 | refine below_set ?_ GE808.out | refine below_set ?_ GE809.out) | exact HB.out)) hb); clear BK808; clear BK809; clear HB; have BK808 := n0_; have BK809 := n1_; have HB := n2_; clear n0_ n1_ n2_; (try clear hb); (try clear hb2); (try clear hk); (try clear hi); have hcz17_0 : w16.cell? ⟨gb809, 0, none⟩ = some (.int .i64 a1_0) := (blk_cell BK809.out 0).trans rfl; have hcz17_1 : w16.cell? ⟨gb809, 1, none⟩ = some (.int .i64 a1_1) := (blk_cell BK809.out 1).trans rfl; have hcz17_2 : w16.cell? ⟨gb809, 2, none⟩ = some (.slice A1_2 l1_2.length c1_2) := (blk_cell BK809.out 2).trans rfl; have hcz17_3 : w16.cell? ⟨gb809, 3, none⟩ = some (.slice A1_3 l1_3.length c1_3) := (blk_cell BK809.out 3).trans rfl; have hfz17_0 := blk_frozen BK809.out 0; have hfz17_1 := blk_frozen BK809.out 1; have hfz17_2 := blk_frozen BK809.out 2; have hfz17_3 := blk_frozen BK809.out 3) | ((with_reducible refine gate_callee (f := 31) rfl ?_); refine goesL_ (some 17) rfl rfl Try.func31 (by kernel_rfl) rfl #[.agg #[.int .i64 a1_0, .int .i64 a1_1, .slice A1_2 l1_2.length c1_2, .slice A1_3 l1_3.length c1_3], .int .i64 t810] rfl (by (try simp only [List.map_toArray, List.map_cons, List.map_nil]); first | done | rfl | (simp only [List.length_drop, List.length_take]; rfl)) ?_; (with_reducible refine (laws_szTerm.calls k a1_0 a1_1 _ _ l1_2 _ _ l1_3 t810 t811 _ ?side1 ?side2 ?side3 ?side4 A10.out).mono ?_); (case side1 => repeat (first | exact (Kd.C_below HR1_2.out HB.out) | (with_reducible refine Kd.C_alloc ?_ _) | (with_reducible refine Kd.C_drewN ?_ _) | (with_reducible refine Kd.C_drew ?_))); (case side2 => exact HC1_2.out); (case side3 => repeat (first | exact (Kd.C_below HR1_3.out HB.out) | (with_reducible refine Kd.C_alloc ?_ _) | (with_reducible refine Kd.C_drewN ?_ _) | (with_reducible refine Kd.C_drew ?_))); (case side4 => exact HC1_3.out); rintro e w18 ⟨rfl, hb⟩; refine ⟨_, rfl, ?_⟩; have n0_ := Aside0.mk (blk_below (g := gb808) (o := .cells #[.int .i64 a0_0, .int .i64 a0_1, .slice A0_2 l0_2.length c0_2, .slice A0_3 l0_3.length c0_3] 43 (0, 0)) (by (with_reducible repeat (first | refine blk_drewN ?_ _ | refine blk_drew ?_ | refine blk_alloc ?_ _)); exact BK808.out) hb); have n1_ := Aside0.mk (blk_below (g := gb809) (o := .cells #[.int .i64 a1_0, .int .i64 a1_1, .slice A1_2 l1_2.length c1_2, .slice A1_3 l1_3.length c1_3] 43 (0, 0)) (by (with_reducible repeat (first | refine blk_drewN ?_ _ | refine blk_drew ?_ | refine blk_alloc ?_ _)); exact BK809.out) hb); have n2_ := Aside0.mk (below_step (by repeat (first | (with_reducible first | exact HB.out | apply below_alloc | apply pw_below_drewN | apply below_drew1 | refine below_set ?_ GE808.out | refine below_set ?_ GE809.out) | exact HB.out)) hb); clear BK808; clear BK809; clear HB; have BK808 := n0_; have BK809 := n1_; have HB := n2_; clear n0_ n1_ n2_; (try clear hb); (try clear hb2); (try clear hk); (try clear hi)))
      go_ret
      exact ⟨by first | rfl | (simp [errW_none, errW_some] <;> rfl) | (simp [*, errW_none, errW_some] <;> rfl), by repeat (first | (with_reducible first | exact HB.out | apply below_alloc | apply pw_below_drewN | apply below_drew1 | refine below_set ?_ GE808.out | refine below_set ?_ GE809.out) | exact HB.out)⟩
    · rw [if_neg c11] at H
      have c11b0 : decide (t811 < 0) = false := decide_eq_false c11
      clear c11
      replace H := Option.bind_eq_some_iff.mp H
      obtain ⟨⟨t812, t813, t814, t817⟩, A190, H⟩ := H
      replace H : ((laws_toTerm.f k a1_0 a1_1 l1_2 l1_3).bind fun bt820 => ((spec_SameTerms.f k t812 t813 t814 t817 bt820.1 bt820.2.1 bt820.2.2.1 bt820.2.2.2).bind fun t828 => ((laws_toTerm.f k a0_0 a0_1 l0_2 l0_3).bind fun bt829 => ((laws_toTerm.f k a1_0 a1_1 l1_2 l1_3).bind fun bt838 => ((impl_SameTerms.f k bt829.1 bt829.2.1 bt829.2.2.1 bt829.2.2.2 bt838.1 bt838.2.1 bt838.2.2.1 bt838.2.2.2).bind fun t847 => (if (t847 != t828) = true then (some false) else ((laws_toTerm.f k a0_0 a0_1 l0_2 l0_3).bind fun bt848 => ((laws_eqTerm.f k bt829.1 bt829.2.1 bt829.2.2.1 bt829.2.2.2 bt848.1 bt848.2.1 bt848.2.2.1 bt848.2.2.2).bind fun t856 => (if t856 = true then ((laws_toTerm.f k a1_0 a1_1 l1_2 l1_3).bind fun bt857 => ((laws_eqTerm.f k bt838.1 bt838.2.1 bt838.2.2.1 bt838.2.2.2 bt857.1 bt857.2.1 bt857.2.2.1 bt857.2.2.2).bind fun t865 => (if t865 = true then (some true) else (some false)))) else (some false)))))))))) = some r := H
      have A19 := Aside0.mk A190
      clear A190
      replace H := Option.bind_eq_some_iff.mp H
      obtain ⟨⟨t820, t821, t822, t825⟩, A200, H⟩ := H
      replace H : ((spec_SameTerms.f k t812 t813 t814 t817 t820 t821 t822 t825).bind fun t828 => ((laws_toTerm.f k a0_0 a0_1 l0_2 l0_3).bind fun bt829 => ((laws_toTerm.f k a1_0 a1_1 l1_2 l1_3).bind fun bt838 => ((impl_SameTerms.f k bt829.1 bt829.2.1 bt829.2.2.1 bt829.2.2.2 bt838.1 bt838.2.1 bt838.2.2.1 bt838.2.2.2).bind fun t847 => (if (t847 != t828) = true then (some false) else ((laws_toTerm.f k a0_0 a0_1 l0_2 l0_3).bind fun bt848 => ((laws_eqTerm.f k bt829.1 bt829.2.1 bt829.2.2.1 bt829.2.2.2 bt848.1 bt848.2.1 bt848.2.2.1 bt848.2.2.2).bind fun t856 => (if t856 = true then ((laws_toTerm.f k a1_0 a1_1 l1_2 l1_3).bind fun bt857 => ((laws_eqTerm.f k bt838.1 bt838.2.1 bt838.2.2.1 bt838.2.2.2 bt857.1 bt857.2.1 bt857.2.2.1 bt857.2.2.2).bind fun t865 => (if t865 = true then (some true) else (some false)))) else (some false))))))))) = some r := H
      have A20 := Aside0.mk A200
      clear A200
      replace H := Option.bind_eq_some_iff.mp H
      obtain ⟨t828, A210, H⟩ := H
      replace H : ((laws_toTerm.f k a0_0 a0_1 l0_2 l0_3).bind fun bt829 => ((laws_toTerm.f k a1_0 a1_1 l1_2 l1_3).bind fun bt838 => ((impl_SameTerms.f k bt829.1 bt829.2.1 bt829.2.2.1 bt829.2.2.2 bt838.1 bt838.2.1 bt838.2.2.1 bt838.2.2.2).bind fun t847 => (if (t847 != t828) = true then (some false) else ((laws_toTerm.f k a0_0 a0_1 l0_2 l0_3).bind fun bt848 => ((laws_eqTerm.f k bt829.1 bt829.2.1 bt829.2.2.1 bt829.2.2.2 bt848.1 bt848.2.1 bt848.2.2.1 bt848.2.2.2).bind fun t856 => (if t856 = true then ((laws_toTerm.f k a1_0 a1_1 l1_2 l1_3).bind fun bt857 => ((laws_eqTerm.f k bt838.1 bt838.2.1 bt838.2.2.1 bt838.2.2.2 bt857.1 bt857.2.1 bt857.2.2.1 bt857.2.2.2).bind fun t865 => (if t865 = true then (some true) else (some false)))) else (some false)))))))) = some r := H
      have A21 := Aside0.mk A210
      clear A210
      replace H := Option.bind_eq_some_iff.mp H
      obtain ⟨⟨t829, t830, t831, t834⟩, A220, H⟩ := H
      replace H : ((laws_toTerm.f k a1_0 a1_1 l1_2 l1_3).bind fun bt838 => ((impl_SameTerms.f k t829 t830 t831 t834 bt838.1 bt838.2.1 bt838.2.2.1 bt838.2.2.2).bind fun t847 => (if (t847 != t828) = true then (some false) else ((laws_toTerm.f k a0_0 a0_1 l0_2 l0_3).bind fun bt848 => ((laws_eqTerm.f k t829 t830 t831 t834 bt848.1 bt848.2.1 bt848.2.2.1 bt848.2.2.2).bind fun t856 => (if t856 = true then ((laws_toTerm.f k a1_0 a1_1 l1_2 l1_3).bind fun bt857 => ((laws_eqTerm.f k bt838.1 bt838.2.1 bt838.2.2.1 bt838.2.2.2 bt857.1 bt857.2.1 bt857.2.2.1 bt857.2.2.2).bind fun t865 => (if t865 = true then (some true) else (some false)))) else (some false))))))) = some r := H
      have A22 := Aside0.mk A220
      clear A220
      replace H := Option.bind_eq_some_iff.mp H
      obtain ⟨⟨t838, t839, t840, t843⟩, A230, H⟩ := H
      replace H : ((impl_SameTerms.f k t829 t830 t831 t834 t838 t839 t840 t843).bind fun t847 => (if (t847 != t828) = true then (some false) else ((laws_toTerm.f k a0_0 a0_1 l0_2 l0_3).bind fun bt848 => ((laws_eqTerm.f k t829 t830 t831 t834 bt848.1 bt848.2.1 bt848.2.2.1 bt848.2.2.2).bind fun t856 => (if t856 = true then ((laws_toTerm.f k a1_0 a1_1 l1_2 l1_3).bind fun bt857 => ((laws_eqTerm.f k t838 t839 t840 t843 bt857.1 bt857.2.1 bt857.2.2.1 bt857.2.2.2).bind fun t865 => (if t865 = true then (some true) else (some false)))) else (some false)))))) = some r := H
      have A23 := Aside0.mk A230
      clear A230
      replace H := Option.bind_eq_some_iff.mp H
      obtain ⟨t847, A240, H⟩ := H
      replace H : (if (t847 != t828) = true then (some false) else ((laws_toTerm.f k a0_0 a0_1 l0_2 l0_3).bind fun bt848 => ((laws_eqTerm.f k t829 t830 t831 t834 bt848.1 bt848.2.1 bt848.2.2.1 bt848.2.2.2).bind fun t856 => (if t856 = true then ((laws_toTerm.f k a1_0 a1_1 l1_2 l1_3).bind fun bt857 => ((laws_eqTerm.f k t838 t839 t840 t843 bt857.1 bt857.2.1 bt857.2.2.1 bt857.2.2.2).bind fun t865 => (if t865 = true then (some true) else (some false)))) else (some false))))) = some r := H
      have A24 := Aside0.mk A240
      clear A240
      by_cases c25 : (t847 != t828) = true
      · rw [if_pos c25] at H
        have c25b0 : (t847 != t828) = true := c25
        (try (have c25b1 : decide (t847 = t828) = false := by simpa using c25))
        (try (have c25b2 : (t847 == t828) = false := by simpa using c25))
        (try (have c25b3 : ¬ (t847 = t828) := by simpa using c25))
        clear c25
        obtain rfl := Option.some.inj H
        exact absurd hr_ (by decide)
      · rw [if_neg c25] at H
        have c25b0 : (t847 != t828) = false := by simpa using c25
        (try (have c25b1 : decide (t847 = t828) = true := by simpa using c25))
        (try (have c25b2 : (t847 == t828) = true := by simpa using c25))
        clear c25
        replace H := Option.bind_eq_some_iff.mp H
        obtain ⟨⟨t848, t849, t850, t853⟩, A260, H⟩ := H
        replace H : ((laws_eqTerm.f k t829 t830 t831 t834 t848 t849 t850 t853).bind fun t856 => (if t856 = true then ((laws_toTerm.f k a1_0 a1_1 l1_2 l1_3).bind fun bt857 => ((laws_eqTerm.f k t838 t839 t840 t843 bt857.1 bt857.2.1 bt857.2.2.1 bt857.2.2.2).bind fun t865 => (if t865 = true then (some true) else (some false)))) else (some false))) = some r := H
        have A26 := Aside0.mk A260
        clear A260
        replace H := Option.bind_eq_some_iff.mp H
        obtain ⟨t856, A270, H⟩ := H
        replace H : (if t856 = true then ((laws_toTerm.f k a1_0 a1_1 l1_2 l1_3).bind fun bt857 => ((laws_eqTerm.f k t838 t839 t840 t843 bt857.1 bt857.2.1 bt857.2.2.1 bt857.2.2.2).bind fun t865 => (if t865 = true then (some true) else (some false)))) else (some false)) = some r := H
        have A27 := Aside0.mk A270
        clear A270
        by_cases c28 : t856 = true
        · subst c28
          have H1 : ((laws_toTerm.f k a1_0 a1_1 l1_2 l1_3).bind fun bt857 => ((laws_eqTerm.f k t838 t839 t840 t843 bt857.1 bt857.2.1 bt857.2.2.1 bt857.2.2.2).bind fun t865 => (if t865 = true then (some true) else (some false)))) = some r := by rw [if_pos rfl] at H; exact H
          clear H
          have H := H1
          clear H1
          replace H := Option.bind_eq_some_iff.mp H
          obtain ⟨⟨t857, t858, t859, t862⟩, A290, H⟩ := H
          replace H : ((laws_eqTerm.f k t838 t839 t840 t843 t857 t858 t859 t862).bind fun t865 => (if t865 = true then (some true) else (some false))) = some r := H
          have A29 := Aside0.mk A290
          clear A290
          replace H := Option.bind_eq_some_iff.mp H
          obtain ⟨t865, A300, H⟩ := H
          replace H : (if t865 = true then (some true) else (some false)) = some r := H
          have A30 := Aside0.mk A300
          clear A300
          by_cases c31 : t865 = true
          · subst c31
            have H1 : (some true) = some r := by rw [if_pos rfl] at H; exact H
            clear H
            have H := H1
            clear H1
            obtain rfl := Option.some.inj H
            go_enter Try.func11, Try.ntmps11
            try go_wp2_with (first | ((with_reducible refine gate_dst (N := 2) rfl ?_); refine box_event ?hg (N := 2) ?hd (cs := #[.int .i64 a0_0, .int .i64 a0_1, .slice A0_2 l0_2.length c0_2, .slice A0_3 l0_3.length c0_3]) (t := 43) ?hr ?_; (case hd => rfl); (case hg => rfl); (case hr => first | (go_simp; done) | (go_simp; rfl)); intro gb808 hg w32 hbox hb; have n0_ := Aside0.mk (below_step (by repeat (first | (with_reducible first | exact HB.out | apply below_alloc | apply pw_below_drewN | apply below_drew1) | exact HB.out)) hb); have n1_ := Aside0.mk (hbox); have n2_ := Aside0.mk ((by rw [hg]; exact (below_size (by repeat (first | (with_reducible first | exact HB.out | apply below_alloc | apply pw_below_drewN | apply below_drew1) | exact HB.out))) : w.heap.size ≤ gb808)); have n3_ := Aside0.mk ((by rw [hg]; exact (below_size (by repeat (first | (with_reducible first | exact HB.out | apply below_alloc | apply pw_below_drewN | apply below_drew1) | exact HB.out))) : w.heap.size ≤ gb808)); clear HB; have HB := n0_; have BK808 := n1_; have GW808 := n2_; have GE808 := n3_; clear n0_ n1_ n2_ n3_; clear hb hbox hg) | ((with_reducible refine gate_dst (N := 3) rfl ?_); refine box_event ?hg (N := 3) ?hd (cs := #[.int .i64 a1_0, .int .i64 a1_1, .slice A1_2 l1_2.length c1_2, .slice A1_3 l1_3.length c1_3]) (t := 43) ?hr ?_; (case hd => rfl); (case hg => rfl); (case hr => first | (go_simp; done) | (go_simp; rfl)); intro gb809 hg w33 hbox hb; have n0_ := Aside0.mk (blk_below (g := gb808) (o := .cells #[.int .i64 a0_0, .int .i64 a0_1, .slice A0_2 l0_2.length c0_2, .slice A0_3 l0_3.length c0_3] 43 (0, 0)) (by (with_reducible repeat (first | refine blk_drewN ?_ _ | refine blk_drew ?_ | refine blk_alloc ?_ _)); exact BK808.out) hb); have n1_ := Aside0.mk (below_step (by repeat (first | (with_reducible first | exact HB.out | apply below_alloc | apply pw_below_drewN | apply below_drew1 | refine below_set ?_ GE808.out) | exact HB.out)) hb); have n2_ := Aside0.mk (hbox); have n3_ := Aside0.mk ((by rw [hg]; exact (below_size (by repeat (first | (with_reducible first | exact HB.out | apply below_alloc | apply pw_below_drewN | apply below_drew1 | refine below_set ?_ GE808.out) | exact HB.out))) : w.heap.size ≤ gb809)); have n4_ := Aside0.mk ((by rw [hg]; exact (below_size (by repeat (first | (with_reducible first | exact HB.out | apply below_alloc | apply pw_below_drewN | apply below_drew1 | refine below_set ?_ GE808.out) | exact HB.out))) : w.heap.size ≤ gb809)); have n5_ := Aside0.mk ((by rw [hg]; exact Nat.ne_of_lt (blk_lt (g := gb808) (o := .cells #[.int .i64 a0_0, .int .i64 a0_1, .slice A0_2 l0_2.length c0_2, .slice A0_3 l0_3.length c0_3] 43 (0, 0)) (by (with_reducible repeat (first | refine blk_drewN ?_ _ | refine blk_drew ?_ | refine blk_alloc ?_ _)); exact BK808.out)) : gb808 ≠ gb809)); have n6_ := Aside0.mk ((by rw [hg]; exact Nat.ne_of_gt (blk_lt (g := gb808) (o := .cells #[.int .i64 a0_0, .int .i64 a0_1, .slice A0_2 l0_2.length c0_2, .slice A0_3 l0_3.length c0_3] 43 (0, 0)) (by (with_reducible repeat (first | refine blk_drewN ?_ _ | refine blk_drew ?_ | refine blk_alloc ?_ _)); exact BK808.out)) : gb809 ≠ gb808)); clear BK808; clear HB; have BK808 := n0_; have HB := n1_; have BK809 := n2_; have GW809 := n3_; have GE809 := n4_; have NB808_809 := n5_; have NB809_808 := n6_; clear n0_ n1_ n2_ n3_ n4_ n5_ n6_; clear hb hbox hg; have hnb34 := NB808_809.out; have hnc34 := NB809_808.out; have hcz35_0 : w33.cell? ⟨gb808, 0, none⟩ = some (.int .i64 a0_0) := (blk_cell BK808.out 0).trans rfl; have hcz35_1 : w33.cell? ⟨gb808, 1, none⟩ = some (.int .i64 a0_1) := (blk_cell BK808.out 1).trans rfl; have hcz35_2 : w33.cell? ⟨gb808, 2, none⟩ = some (.slice A0_2 l0_2.length c0_2) := (blk_cell BK808.out 2).trans rfl; have hcz35_3 : w33.cell? ⟨gb808, 3, none⟩ = some (.slice A0_3 l0_3.length c0_3) := (blk_cell BK808.out 3).trans rfl; have hfz35_0 := blk_frozen BK808.out 0; have hfz35_1 := blk_frozen BK808.out 1; have hfz35_2 := blk_frozen BK808.out 2; have hfz35_3 := blk_frozen BK808.out 3) | ((with_reducible refine gate_callee (f := 31) rfl ?_); refine goesL_ (some 12) rfl rfl Try.func31 (by kernel_rfl) rfl #[.agg #[.int .i64 a0_0, .int .i64 a0_1, .slice A0_2 l0_2.length c0_2, .slice A0_3 l0_3.length c0_3], .int .i64 1048576] rfl (by (try simp only [List.map_toArray, List.map_cons, List.map_nil]); first | done | rfl | (simp only [List.length_drop, List.length_take]; rfl)) ?_; (with_reducible refine (laws_szTerm.calls k a0_0 a0_1 _ _ l0_2 _ _ l0_3 1048576 t810 _ ?side1 ?side2 ?side3 ?side4 A3.out).mono ?_); (case side1 => repeat (first | exact (Kd.C_below HR0_2.out HB.out) | (with_reducible refine Kd.C_alloc ?_ _) | (with_reducible refine Kd.C_drewN ?_ _) | (with_reducible refine Kd.C_drew ?_))); (case side2 => exact HC0_2.out); (case side3 => repeat (first | exact (Kd.C_below HR0_3.out HB.out) | (with_reducible refine Kd.C_alloc ?_ _) | (with_reducible refine Kd.C_drewN ?_ _) | (with_reducible refine Kd.C_drew ?_))); (case side4 => exact HC0_3.out); rintro e w36 ⟨rfl, hb⟩; refine ⟨_, rfl, ?_⟩; have n0_ := Aside0.mk (blk_below (g := gb808) (o := .cells #[.int .i64 a0_0, .int .i64 a0_1, .slice A0_2 l0_2.length c0_2, .slice A0_3 l0_3.length c0_3] 43 (0, 0)) (by (with_reducible repeat (first | refine blk_drewN ?_ _ | refine blk_drew ?_ | refine blk_alloc ?_ _)); exact BK808.out) hb); have n1_ := Aside0.mk (blk_below (g := gb809) (o := .cells #[.int .i64 a1_0, .int .i64 a1_1, .slice A1_2 l1_2.length c1_2, .slice A1_3 l1_3.length c1_3] 43 (0, 0)) (by (with_reducible repeat (first | refine blk_drewN ?_ _ | refine blk_drew ?_ | refine blk_alloc ?_ _)); exact BK809.out) hb); have n2_ := Aside0.mk (below_step (by repeat (first | (with_reducible first | exact HB.out | apply below_alloc | apply pw_below_drewN | apply below_drew1 | refine below_set ?_ GE808.out | refine below_set ?_ GE809.out) | exact HB.out)) hb); clear BK808; clear BK809; clear HB; have BK808 := n0_; have BK809 := n1_; have HB := n2_; clear n0_ n1_ n2_; (try clear hb); (try clear hb2); (try clear hk); (try clear hi); have hcz37_0 : w36.cell? ⟨gb809, 0, none⟩ = some (.int .i64 a1_0) := (blk_cell BK809.out 0).trans rfl; have hcz37_1 : w36.cell? ⟨gb809, 1, none⟩ = some (.int .i64 a1_1) := (blk_cell BK809.out 1).trans rfl; have hcz37_2 : w36.cell? ⟨gb809, 2, none⟩ = some (.slice A1_2 l1_2.length c1_2) := (blk_cell BK809.out 2).trans rfl; have hcz37_3 : w36.cell? ⟨gb809, 3, none⟩ = some (.slice A1_3 l1_3.length c1_3) := (blk_cell BK809.out 3).trans rfl; have hfz37_0 := blk_frozen BK809.out 0; have hfz37_1 := blk_frozen BK809.out 1; have hfz37_2 := blk_frozen BK809.out 2; have hfz37_3 := blk_frozen BK809.out 3) | ((with_reducible refine gate_callee (f := 31) rfl ?_); refine goesL_ (some 17) rfl rfl Try.func31 (by kernel_rfl) rfl #[.agg #[.int .i64 a1_0, .int .i64 a1_1, .slice A1_2 l1_2.length c1_2, .slice A1_3 l1_3.length c1_3], .int .i64 t810] rfl (by (try simp only [List.map_toArray, List.map_cons, List.map_nil]); first | done | rfl | (simp only [List.length_drop, List.length_take]; rfl)) ?_; (with_reducible refine (laws_szTerm.calls k a1_0 a1_1 _ _ l1_2 _ _ l1_3 t810 t811 _ ?side1 ?side2 ?side3 ?side4 A10.out).mono ?_); (case side1 => repeat (first | exact (Kd.C_below HR1_2.out HB.out) | (with_reducible refine Kd.C_alloc ?_ _) | (with_reducible refine Kd.C_drewN ?_ _) | (with_reducible refine Kd.C_drew ?_))); (case side2 => exact HC1_2.out); (case side3 => repeat (first | exact (Kd.C_below HR1_3.out HB.out) | (with_reducible refine Kd.C_alloc ?_ _) | (with_reducible refine Kd.C_drewN ?_ _) | (with_reducible refine Kd.C_drew ?_))); (case side4 => exact HC1_3.out); rintro e w38 ⟨rfl, hb⟩; refine ⟨_, rfl, ?_⟩; have n0_ := Aside0.mk (blk_below (g := gb808) (o := .cells #[.int .i64 a0_0, .int .i64 a0_1, .slice A0_2 l0_2.length c0_2, .slice A0_3 l0_3.length c0_3] 43 (0, 0)) (by (with_reducible repeat (first | refine blk_drewN ?_ _ | refine blk_drew ?_ | refine blk_alloc ?_ _)); exact BK808.out) hb); have n1_ := Aside0.mk (blk_below (g := gb809) (o := .cells #[.int .i64 a1_0, .int .i64 a1_1, .slice A1_2 l1_2.length c1_2, .slice A1_3 l1_3.length c1_3] 43 (0, 0)) (by (with_reducible repeat (first | refine blk_drewN ?_ _ | refine blk_drew ?_ | refine blk_alloc ?_ _)); exact BK809.out) hb); have n2_ := Aside0.mk (below_step (by repeat (first | (with_reducible first | exact HB.out | apply below_alloc | apply pw_below_drewN | apply below_drew1 | refine below_set ?_ GE808.out | refine below_set ?_ GE809.out) | exact HB.out)) hb); clear BK808; clear BK809; clear HB; have BK808 := n0_; have BK809 := n1_; have HB := n2_; clear n0_ n1_ n2_; (try clear hb); (try clear hb2); (try clear hk); (try clear hi)))
            have n0_ := Aside0.mk (blk_drew BK808.out)
            have n1_ := Aside0.mk (blk_drew BK809.out)
            have n2_ := Aside0.mk (below_drew1 HB.out)
            clear BK808
            clear BK809
            clear HB
            have BK808 := n0_
            have BK809 := n1_
            have HB := n2_
            clear n0_ n1_ n2_
            refine start_ (n := 6) (S := fun w' => w'.cell? ⟨gb808, 0, none⟩ = some (.int .i64 a0_0) ∧ w'.cell? ⟨gb808, 1, none⟩ = some (.int .i64 a0_1) ∧ w'.cell? ⟨gb808, 2, none⟩ = some (.slice A0_2 l0_2.length c0_2) ∧ w'.cell? ⟨gb808, 3, none⟩ = some (.slice A0_3 l0_3.length c0_3) ∧ w'.cell? ⟨gb809, 0, none⟩ = some (.int .i64 a1_0) ∧ w'.cell? ⟨gb809, 1, none⟩ = some (.int .i64 a1_1) ∧ w'.cell? ⟨gb809, 2, none⟩ = some (.slice A1_2 l1_2.length c1_2) ∧ w'.cell? ⟨gb809, 3, none⟩ = some (.slice A1_3 l1_3.length c1_3)) (ds := []) #[false, false, false, false, false, false] (by kernel_rfl) rfl rfl ⟨(blk_cell BK808.out 0).trans rfl, (blk_cell BK808.out 1).trans rfl, (blk_cell BK808.out 2).trans rfl, (blk_cell BK808.out 3).trans rfl, (blk_cell BK809.out 0).trans rfl, (blk_cell BK809.out 1).trans rfl, (blk_cell BK809.out 2).trans rfl, (blk_cell BK809.out 3).trans rfl⟩ (fun hHeld => ?_)
            generalize w38.drew = w39 at BK808 BK809 HB hHeld ⊢
            refine take_ (i := 0) (N := some 20) (v := ?_) (a' := ?_) #[true, false, false, false, false, false] rfl rfl (by kernel_rfl) (fun _ _ _ h => h) (Or.inl ⟨by rfl, ?_⟩) hHeld ?_ ?_
            rotate_left
            · rintro w' ⟨s0, s1, s2, s3, s4, s5, s6, s7⟩
              go_simp
              with_reducible rfl
            rotate_left
            · simp only [Act.put, List.setIfInBounds_toArray, List.set_cons_zero, List.set_cons_succ, i64_w, i32_w]
              rfl
            refine take_ (i := 2) (N := some 22) (v := ?_) (a' := ?_) #[true, false, true, false, false, false] rfl rfl (by kernel_rfl) (fun _ _ _ h => h) (Or.inl ⟨by rfl, ?_⟩) hHeld ?_ ?_
            rotate_left
            · rintro w' ⟨s0, s1, s2, s3, s4, s5, s6, s7⟩
              go_simp
              with_reducible rfl
            rotate_left
            · simp only [Act.put, List.setIfInBounds_toArray, List.set_cons_zero, List.set_cons_succ, i64_w, i32_w]
              rfl
            refine one_ (i := 1) (N := some 21) #[true, true, true, false, false, false] rfl rfl (by kernel_rfl) (by decide) (fun K hK => ?_)
            refine goes_ Try.func33 (by kernel_rfl) rfl #[.agg #[.int .i64 a0_0, .int .i64 a0_1, .slice A0_2 l0_2.length c0_2, .slice A0_3 l0_3.length c0_3]] (by rfl) rfl rfl (by (try simp only [List.map_toArray, List.map_cons, List.map_nil]); first | done | rfl | (simp only [List.length_drop, List.length_take]; rfl)) ?_
            with_reducible refine (laws_toTerm.calls k a0_0 a0_1 _ _ l0_2 _ _ l0_3 t812 t813 t814 t817 _ ?side1 ?side2 ?side3 ?side4 A19.out).mono ?_
            (case side1 => repeat (first | exact (Kd.C_below HR0_2.out HB.out) | (with_reducible refine Kd.C_alloc ?_ _) | (with_reducible refine Kd.C_drewN ?_ _) | (with_reducible refine Kd.C_drew ?_)))
            (case side2 => exact HC0_2.out)
            (case side3 => repeat (first | exact (Kd.C_below HR0_3.out HB.out) | (with_reducible refine Kd.C_alloc ?_ _) | (with_reducible refine Kd.C_drewN ?_ _) | (with_reducible refine Kd.C_drew ?_)))
            (case side4 => exact HC0_3.out)
            rintro e w40 ⟨v815, v818, rfl, ho0, ho1, hb⟩
            refine ⟨_, rfl, ?_⟩
            have n0_ := Aside0.mk (Kd.R_lower ho0 (below_size (by repeat (first | (with_reducible first | exact HB.out | apply below_alloc | apply pw_below_drewN | apply below_drew1 | refine below_set ?_ GE808.out | refine below_set ?_ GE809.out) | exact HB.out))))
            have n1_ := Aside0.mk (Kd.R_lower ho1 (below_size (by repeat (first | (with_reducible first | exact HB.out | apply below_alloc | apply pw_below_drewN | apply below_drew1 | refine below_set ?_ GE808.out | refine below_set ?_ GE809.out) | exact HB.out))))
            have n2_ := Aside0.mk (blk_below (g := gb808) (o := .cells #[.int .i64 a0_0, .int .i64 a0_1, .slice A0_2 l0_2.length c0_2, .slice A0_3 l0_3.length c0_3] 43 (0, 0)) (by (with_reducible repeat (first | refine blk_drewN ?_ _ | refine blk_drew ?_ | refine blk_alloc ?_ _)); exact BK808.out) hb)
            have n3_ := Aside0.mk (blk_below (g := gb809) (o := .cells #[.int .i64 a1_0, .int .i64 a1_1, .slice A1_2 l1_2.length c1_2, .slice A1_3 l1_3.length c1_3] 43 (0, 0)) (by (with_reducible repeat (first | refine blk_drewN ?_ _ | refine blk_drew ?_ | refine blk_alloc ?_ _)); exact BK809.out) hb)
            have n4_ := Aside0.mk (below_step (by repeat (first | (with_reducible first | exact HB.out | apply below_alloc | apply pw_below_drewN | apply below_drew1 | refine below_set ?_ GE808.out | refine below_set ?_ GE809.out) | exact HB.out)) hb)
            clear BK808
            clear BK809
            clear HB
            have HO816 := n0_
            have HO819 := n1_
            have BK808 := n2_
            have BK809 := n3_
            have HB := n4_
            clear n0_ n1_ n2_ n3_ n4_
            (try clear hb)
            (try clear hb2)
            (try clear hk)
            (try clear hi)
            (try clear ho0)
            (try clear ho1)
            refine hK.out _ _ ⟨(blk_cell BK808.out 0).trans rfl, (blk_cell BK808.out 1).trans rfl, (blk_cell BK808.out 2).trans rfl, (blk_cell BK808.out 3).trans rfl, (blk_cell BK809.out 0).trans rfl, (blk_cell BK809.out 1).trans rfl, (blk_cell BK809.out 2).trans rfl, (blk_cell BK809.out 3).trans rfl⟩ (fun hHeld => ?_)
            clear hK K
            refine norm_ (a' := ?_) ?_ ?_
            rotate_left
            · show Act.put _ (some 21) _ = _
              simp only [Act.put, List.setIfInBounds_toArray, List.set_cons_zero, List.set_cons_succ, i64_w, i32_w]
              rfl
            refine one_ (i := 3) (N := some 23) #[true, true, true, true, false, false] rfl rfl (by kernel_rfl) (by decide) (fun K hK => ?_)
            refine goes_ Try.func33 (by kernel_rfl) rfl #[.agg #[.int .i64 a1_0, .int .i64 a1_1, .slice A1_2 l1_2.length c1_2, .slice A1_3 l1_3.length c1_3]] (by rfl) rfl rfl (by (try simp only [List.map_toArray, List.map_cons, List.map_nil]); first | done | rfl | (simp only [List.length_drop, List.length_take]; rfl)) ?_
            with_reducible refine (laws_toTerm.calls k a1_0 a1_1 _ _ l1_2 _ _ l1_3 t820 t821 t822 t825 _ ?side1 ?side2 ?side3 ?side4 A20.out).mono ?_
            (case side1 => repeat (first | exact (Kd.C_below HR1_2.out HB.out) | (with_reducible refine Kd.C_alloc ?_ _) | (with_reducible refine Kd.C_drewN ?_ _) | (with_reducible refine Kd.C_drew ?_)))
            (case side2 => exact HC1_2.out)
            (case side3 => repeat (first | exact (Kd.C_below HR1_3.out HB.out) | (with_reducible refine Kd.C_alloc ?_ _) | (with_reducible refine Kd.C_drewN ?_ _) | (with_reducible refine Kd.C_drew ?_)))
            (case side4 => exact HC1_3.out)
            rintro e w41 ⟨v823, v826, rfl, ho0, ho1, hb⟩
            refine ⟨_, rfl, ?_⟩
            have n0_ := Aside0.mk (Kd.R_elder' (by (with_reducible repeat (first | apply Kd.R_alloc | apply Kd.R_drewN | apply Kd.R_drew)); exact HO816.out) (Kd.R_base ho0) hb)
            have n1_ := Aside0.mk (Kd.R_mono (Kd.R_told (Kd.R_told (Kd.R_old (by (with_reducible repeat (first | apply Kd.R_alloc | apply Kd.R_drewN | apply Kd.R_drew)); exact HO819.out) hb) (Kd.R_base ho0)) (Kd.R_base ho1)) (fun _ h_ => h_.1))
            have n2_ := Aside0.mk (Kd.R_lower (Kd.R_new' ho0 (Kd.R_lt (by (with_reducible repeat (first | apply Kd.R_alloc | apply Kd.R_drewN | apply Kd.R_drew)); exact HO816.out))) (below_size (by repeat (first | (with_reducible first | exact HB.out | apply below_alloc | apply pw_below_drewN | apply below_drew1 | refine below_set ?_ GE808.out | refine below_set ?_ GE809.out) | exact HB.out))))
            have n3_ := Aside0.mk (Kd.R_lower (Kd.R_new' (Kd.R_new' ho1 (Kd.R_lt (by (with_reducible repeat (first | apply Kd.R_alloc | apply Kd.R_drewN | apply Kd.R_drew)); exact HO816.out))) (Kd.R_lt (by (with_reducible repeat (first | apply Kd.R_alloc | apply Kd.R_drewN | apply Kd.R_drew)); exact HO819.out))) (below_size (by repeat (first | (with_reducible first | exact HB.out | apply below_alloc | apply pw_below_drewN | apply below_drew1 | refine below_set ?_ GE808.out | refine below_set ?_ GE809.out) | exact HB.out))))
            have n4_ := Aside0.mk (blk_below (g := gb808) (o := .cells #[.int .i64 a0_0, .int .i64 a0_1, .slice A0_2 l0_2.length c0_2, .slice A0_3 l0_3.length c0_3] 43 (0, 0)) (by (with_reducible repeat (first | refine blk_drewN ?_ _ | refine blk_drew ?_ | refine blk_alloc ?_ _)); exact BK808.out) hb)
            have n5_ := Aside0.mk (blk_below (g := gb809) (o := .cells #[.int .i64 a1_0, .int .i64 a1_1, .slice A1_2 l1_2.length c1_2, .slice A1_3 l1_3.length c1_3] 43 (0, 0)) (by (with_reducible repeat (first | refine blk_drewN ?_ _ | refine blk_drew ?_ | refine blk_alloc ?_ _)); exact BK809.out) hb)
            have n6_ := Aside0.mk (below_step (by repeat (first | (with_reducible first | exact HB.out | apply below_alloc | apply pw_below_drewN | apply below_drew1 | refine below_set ?_ GE808.out | refine below_set ?_ GE809.out) | exact HB.out)) hb)
            clear HO816
            clear HO819
            clear BK808
            clear BK809
            clear HB
            have HO816 := n0_
            have HO819 := n1_
            have HO824 := n2_
            have HO827 := n3_
            have BK808 := n4_
            have BK809 := n5_
            have HB := n6_
            clear n0_ n1_ n2_ n3_ n4_ n5_ n6_
            (try clear hb)
            (try clear hb2)
            (try clear hk)
            (try clear hi)
            (try clear ho0)
            (try clear ho1)
            obtain ⟨Ao42, co42, eo42⟩ := Kd.R_slice HO816.out
            (first | subst eo42 | (injection eo42 with f1_ f2_ f3_; have f4_ := f1_.symm; have f5_ := f3_.symm; clear f1_ f2_ f3_; subst f4_; subst f5_))
            obtain ⟨Ao43, co43, eo43⟩ := Kd.R_slice HO819.out
            (first | subst eo43 | (injection eo43 with f1_ f2_ f3_; have f4_ := f1_.symm; have f5_ := f3_.symm; clear f1_ f2_ f3_; subst f4_; subst f5_))
            obtain ⟨Ao44, co44, eo44⟩ := Kd.R_slice HO824.out
            (first | subst eo44 | (injection eo44 with f1_ f2_ f3_; have f4_ := f1_.symm; have f5_ := f3_.symm; clear f1_ f2_ f3_; subst f4_; subst f5_))
            obtain ⟨Ao45, co45, eo45⟩ := Kd.R_slice HO827.out
            (first | subst eo45 | (injection eo45 with f1_ f2_ f3_; have f4_ := f1_.symm; have f5_ := f3_.symm; clear f1_ f2_ f3_; subst f4_; subst f5_))
            refine hK.out _ _ ⟨(blk_cell BK808.out 0).trans rfl, (blk_cell BK808.out 1).trans rfl, (blk_cell BK808.out 2).trans rfl, (blk_cell BK808.out 3).trans rfl, (blk_cell BK809.out 0).trans rfl, (blk_cell BK809.out 1).trans rfl, (blk_cell BK809.out 2).trans rfl, (blk_cell BK809.out 3).trans rfl⟩ (fun hHeld => ?_)
            clear hK K
            refine norm_ (a' := ?_) ?_ ?_
            rotate_left
            · show Act.put _ (some 23) _ = _
              simp only [Act.put, List.setIfInBounds_toArray, List.set_cons_zero, List.set_cons_succ, i64_w, i32_w]
              rfl
            refine one_ (i := 4) (N := some 24) #[true, true, true, true, true, false] rfl rfl (by kernel_rfl) (by decide) (fun K hK => ?_)
            refine goes_ Try.func42 (by kernel_rfl) rfl #[.agg #[.int .i64 t812, .int .i64 t813, .slice Ao42 t814.length co42, .slice Ao43 t817.length co43], .agg #[.int .i64 t820, .int .i64 t821, .slice Ao44 t822.length co44, .slice Ao45 t825.length co45]] (by rfl) rfl rfl (by (try simp only [List.map_toArray, List.map_cons, List.map_nil]); first | done | rfl | (simp only [List.length_drop, List.length_take]; rfl)) ?_
            with_reducible refine (spec_SameTerms.calls k t812 t813 _ _ t814 _ _ t817 t820 t821 _ _ t822 _ _ t825 t828 _ ?side1 ?side2 ?side3 ?side4 ?side5 ?side6 ?side7 ?side8 A21.out).mono ?_
            (case side1 => repeat (first | exact (Kd.R_reads' HO816.out).2.2 | (with_reducible refine Kd.C_alloc ?_ _) | (with_reducible refine Kd.C_drewN ?_ _) | (with_reducible refine Kd.C_drew ?_)))
            (case side2 => exact (Kd.R_reads' HO816.out).2.1)
            (case side3 => repeat (first | exact (Kd.R_reads' HO819.out).2.2 | (with_reducible refine Kd.C_alloc ?_ _) | (with_reducible refine Kd.C_drewN ?_ _) | (with_reducible refine Kd.C_drew ?_)))
            (case side4 => exact (Kd.R_reads' HO819.out).2.1)
            (case side5 => repeat (first | exact (Kd.R_reads' HO824.out).2.2 | (with_reducible refine Kd.C_alloc ?_ _) | (with_reducible refine Kd.C_drewN ?_ _) | (with_reducible refine Kd.C_drew ?_)))
            (case side6 => exact (Kd.R_reads' HO824.out).2.1)
            (case side7 => repeat (first | exact (Kd.R_reads' HO827.out).2.2 | (with_reducible refine Kd.C_alloc ?_ _) | (with_reducible refine Kd.C_drewN ?_ _) | (with_reducible refine Kd.C_drew ?_)))
            (case side8 => exact (Kd.R_reads' HO827.out).2.1)
            rintro e w46 ⟨rfl, hb⟩
            refine ⟨_, rfl, ?_⟩
            have n0_ := Aside0.mk (Kd.R_below (by (with_reducible repeat (first | apply Kd.R_alloc | apply Kd.R_drewN | apply Kd.R_drew)); exact HO816.out) hb)
            have n1_ := Aside0.mk (Kd.R_below (by (with_reducible repeat (first | apply Kd.R_alloc | apply Kd.R_drewN | apply Kd.R_drew)); exact HO819.out) hb)
            have n2_ := Aside0.mk (Kd.R_below (by (with_reducible repeat (first | apply Kd.R_alloc | apply Kd.R_drewN | apply Kd.R_drew)); exact HO824.out) hb)
            have n3_ := Aside0.mk (Kd.R_below (by (with_reducible repeat (first | apply Kd.R_alloc | apply Kd.R_drewN | apply Kd.R_drew)); exact HO827.out) hb)
            have n4_ := Aside0.mk (blk_below (g := gb808) (o := .cells #[.int .i64 a0_0, .int .i64 a0_1, .slice A0_2 l0_2.length c0_2, .slice A0_3 l0_3.length c0_3] 43 (0, 0)) (by (with_reducible repeat (first | refine blk_drewN ?_ _ | refine blk_drew ?_ | refine blk_alloc ?_ _)); exact BK808.out) hb)
            have n5_ := Aside0.mk (blk_below (g := gb809) (o := .cells #[.int .i64 a1_0, .int .i64 a1_1, .slice A1_2 l1_2.length c1_2, .slice A1_3 l1_3.length c1_3] 43 (0, 0)) (by (with_reducible repeat (first | refine blk_drewN ?_ _ | refine blk_drew ?_ | refine blk_alloc ?_ _)); exact BK809.out) hb)
            have n6_ := Aside0.mk (below_step (by repeat (first | (with_reducible first | exact HB.out | apply below_alloc | apply pw_below_drewN | apply below_drew1 | refine below_set ?_ GE808.out | refine below_set ?_ GE809.out) | exact HB.out)) hb)
            clear HO816
            clear HO819
            clear HO824
            clear HO827
            clear BK808
            clear BK809
            clear HB
            have HO816 := n0_
            have HO819 := n1_
            have HO824 := n2_
            have HO827 := n3_
            have BK808 := n4_
            have BK809 := n5_
            have HB := n6_
            clear n0_ n1_ n2_ n3_ n4_ n5_ n6_
            (try clear hb)
            (try clear hb2)
            (try clear hk)
            (try clear hi)
            refine hK.out _ _ ⟨(blk_cell BK808.out 0).trans rfl, (blk_cell BK808.out 1).trans rfl, (blk_cell BK808.out 2).trans rfl, (blk_cell BK808.out 3).trans rfl, (blk_cell BK809.out 0).trans rfl, (blk_cell BK809.out 1).trans rfl, (blk_cell BK809.out 2).trans rfl, (blk_cell BK809.out 3).trans rfl⟩ (fun hHeld => ?_)
            clear hK K
            refine norm_ (a' := ?_) ?_ ?_
            rotate_left
            · show Act.put _ (some 24) _ = _
              simp only [Act.put, List.setIfInBounds_toArray, List.set_cons_zero, List.set_cons_succ, i64_w, i32_w]
              rfl
            refine pure_ (i := 5) (N := some 6) (v := ?_) (a' := ?_) #[true, true, true, true, true, true] rfl rfl (by kernel_rfl) (fun _ _ _ h => h) (Or.inl ⟨by rfl, ?_⟩) ?_ ?_
            rotate_left
            · intro w'
              go_simp
              with_reducible rfl
            rotate_left
            · simp only [Act.put, List.setIfInBounds_toArray, List.set_cons_zero, List.set_cons_succ, i64_w, i32_w]
              rfl
            refine done_ (by kernel_rfl) ?_
            have hcz47_0 : w46.cell? ⟨gb808, 0, none⟩ = some (.int .i64 a0_0) := (blk_cell BK808.out 0).trans rfl
            have hcz47_1 : w46.cell? ⟨gb808, 1, none⟩ = some (.int .i64 a0_1) := (blk_cell BK808.out 1).trans rfl
            have hcz47_2 : w46.cell? ⟨gb808, 2, none⟩ = some (.slice A0_2 l0_2.length c0_2) := (blk_cell BK808.out 2).trans rfl
            have hcz47_3 : w46.cell? ⟨gb808, 3, none⟩ = some (.slice A0_3 l0_3.length c0_3) := (blk_cell BK808.out 3).trans rfl
            have hfz47_0 := blk_frozen BK808.out 0
            have hfz47_1 := blk_frozen BK808.out 1
            have hfz47_2 := blk_frozen BK808.out 2
            have hfz47_3 := blk_frozen BK808.out 3
            try go_wp2_with (first | ((with_reducible refine gate_callee (f := 33) rfl ?_); refine goesL_ (some 26) rfl rfl Try.func33 (by kernel_rfl) rfl #[.agg #[.int .i64 a0_0, .int .i64 a0_1, .slice A0_2 l0_2.length c0_2, .slice A0_3 l0_3.length c0_3]] rfl (by (try simp only [List.map_toArray, List.map_cons, List.map_nil]); first | done | rfl | (simp only [List.length_drop, List.length_take]; rfl)) ?_; (with_reducible refine (laws_toTerm.calls k a0_0 a0_1 _ _ l0_2 _ _ l0_3 t829 t830 t831 t834 _ ?side1 ?side2 ?side3 ?side4 A22.out).mono ?_); (case side1 => repeat (first | exact (Kd.C_below HR0_2.out HB.out) | (with_reducible refine Kd.C_alloc ?_ _) | (with_reducible refine Kd.C_drewN ?_ _) | (with_reducible refine Kd.C_drew ?_))); (case side2 => exact HC0_2.out); (case side3 => repeat (first | exact (Kd.C_below HR0_3.out HB.out) | (with_reducible refine Kd.C_alloc ?_ _) | (with_reducible refine Kd.C_drewN ?_ _) | (with_reducible refine Kd.C_drew ?_))); (case side4 => exact HC0_3.out); rintro e w48 ⟨v832, v835, rfl, ho0, ho1, hb⟩; refine ⟨_, rfl, ?_⟩; have n0_ := Aside0.mk (Kd.R_elder' (by (with_reducible repeat (first | apply Kd.R_alloc | apply Kd.R_drewN | apply Kd.R_drew)); exact HO816.out) (Kd.R_base ho0) hb); have n1_ := Aside0.mk (Kd.R_mono (Kd.R_told (Kd.R_told (Kd.R_old (by (with_reducible repeat (first | apply Kd.R_alloc | apply Kd.R_drewN | apply Kd.R_drew)); exact HO819.out) hb) (Kd.R_base ho0)) (Kd.R_base ho1)) (fun _ h_ => h_.1)); have n2_ := Aside0.mk (Kd.R_elder' (by (with_reducible repeat (first | apply Kd.R_alloc | apply Kd.R_drewN | apply Kd.R_drew)); exact HO824.out) (Kd.R_base ho0) hb); have n3_ := Aside0.mk (Kd.R_mono (Kd.R_told (Kd.R_told (Kd.R_old (by (with_reducible repeat (first | apply Kd.R_alloc | apply Kd.R_drewN | apply Kd.R_drew)); exact HO827.out) hb) (Kd.R_base ho0)) (Kd.R_base ho1)) (fun _ h_ => h_.1)); have n4_ := Aside0.mk (Kd.R_lower (Kd.R_new' (Kd.R_new' ho0 (Kd.R_lt (by (with_reducible repeat (first | apply Kd.R_alloc | apply Kd.R_drewN | apply Kd.R_drew)); exact HO816.out))) (Kd.R_lt (by (with_reducible repeat (first | apply Kd.R_alloc | apply Kd.R_drewN | apply Kd.R_drew)); exact HO824.out))) (below_size (by repeat (first | (with_reducible first | exact HB.out | apply below_alloc | apply pw_below_drewN | apply below_drew1 | refine below_set ?_ GE808.out | refine below_set ?_ GE809.out) | exact HB.out)))); have n5_ := Aside0.mk (Kd.R_lower (Kd.R_new' (Kd.R_new' (Kd.R_new' (Kd.R_new' ho1 (Kd.R_lt (by (with_reducible repeat (first | apply Kd.R_alloc | apply Kd.R_drewN | apply Kd.R_drew)); exact HO816.out))) (Kd.R_lt (by (with_reducible repeat (first | apply Kd.R_alloc | apply Kd.R_drewN | apply Kd.R_drew)); exact HO819.out))) (Kd.R_lt (by (with_reducible repeat (first | apply Kd.R_alloc | apply Kd.R_drewN | apply Kd.R_drew)); exact HO824.out))) (Kd.R_lt (by (with_reducible repeat (first | apply Kd.R_alloc | apply Kd.R_drewN | apply Kd.R_drew)); exact HO827.out))) (below_size (by repeat (first | (with_reducible first | exact HB.out | apply below_alloc | apply pw_below_drewN | apply below_drew1 | refine below_set ?_ GE808.out | refine below_set ?_ GE809.out) | exact HB.out)))); have n6_ := Aside0.mk (blk_below (g := gb808) (o := .cells #[.int .i64 a0_0, .int .i64 a0_1, .slice A0_2 l0_2.length c0_2, .slice A0_3 l0_3.length c0_3] 43 (0, 0)) (by (with_reducible repeat (first | refine blk_drewN ?_ _ | refine blk_drew ?_ | refine blk_alloc ?_ _)); exact BK808.out) hb); have n7_ := Aside0.mk (blk_below (g := gb809) (o := .cells #[.int .i64 a1_0, .int .i64 a1_1, .slice A1_2 l1_2.length c1_2, .slice A1_3 l1_3.length c1_3] 43 (0, 0)) (by (with_reducible repeat (first | refine blk_drewN ?_ _ | refine blk_drew ?_ | refine blk_alloc ?_ _)); exact BK809.out) hb); have n8_ := Aside0.mk (below_step (by repeat (first | (with_reducible first | exact HB.out | apply below_alloc | apply pw_below_drewN | apply below_drew1 | refine below_set ?_ GE808.out | refine below_set ?_ GE809.out) | exact HB.out)) hb); clear HO816; clear HO819; clear HO824; clear HO827; clear BK808; clear BK809; clear HB; have HO816 := n0_; have HO819 := n1_; have HO824 := n2_; have HO827 := n3_; have HO833 := n4_; have HO836 := n5_; have BK808 := n6_; have BK809 := n7_; have HB := n8_; clear n0_ n1_ n2_ n3_ n4_ n5_ n6_ n7_ n8_; (try clear hb); (try clear hb2); (try clear hk); (try clear hi); (try clear ho0); (try clear ho1)) | ((with_reducible refine gate_dst (N := 7) rfl ?_); refine box_event ?hg (N := 7) ?hd (cs := #[.int .i64 0, .int .i64 0, .slice none 0 0, .slice none 0 0]) (t := 48) ?hr ?_; (case hd => rfl); (case hg => rfl); (case hr => first | (go_simp; done) | (go_simp; rfl)); intro gb837 hg w49 hbox hb; have n0_ := Aside0.mk (Kd.R_below (by (with_reducible repeat (first | apply Kd.R_alloc | apply Kd.R_drewN | apply Kd.R_drew)); exact HO816.out) hb); have n1_ := Aside0.mk (Kd.R_below (Kd.R_elderB (by (with_reducible repeat (first | apply Kd.R_alloc | apply Kd.R_drewN | apply Kd.R_drew)); exact HO819.out) gb837 (Nat.le_of_eq hg.symm)) hb); have n2_ := Aside0.mk (Kd.R_below (by (with_reducible repeat (first | apply Kd.R_alloc | apply Kd.R_drewN | apply Kd.R_drew)); exact HO824.out) hb); have n3_ := Aside0.mk (Kd.R_below (Kd.R_elderB (by (with_reducible repeat (first | apply Kd.R_alloc | apply Kd.R_drewN | apply Kd.R_drew)); exact HO827.out) gb837 (Nat.le_of_eq hg.symm)) hb); have n4_ := Aside0.mk (Kd.R_below (by (with_reducible repeat (first | apply Kd.R_alloc | apply Kd.R_drewN | apply Kd.R_drew)); exact HO833.out) hb); have n5_ := Aside0.mk (Kd.R_below (Kd.R_elderB (by (with_reducible repeat (first | apply Kd.R_alloc | apply Kd.R_drewN | apply Kd.R_drew)); exact HO836.out) gb837 (Nat.le_of_eq hg.symm)) hb); have n6_ := Aside0.mk (blk_below (g := gb808) (o := .cells #[.int .i64 a0_0, .int .i64 a0_1, .slice A0_2 l0_2.length c0_2, .slice A0_3 l0_3.length c0_3] 43 (0, 0)) (by (with_reducible repeat (first | refine blk_drewN ?_ _ | refine blk_drew ?_ | refine blk_alloc ?_ _)); exact BK808.out) hb); have n7_ := Aside0.mk (blk_below (g := gb809) (o := .cells #[.int .i64 a1_0, .int .i64 a1_1, .slice A1_2 l1_2.length c1_2, .slice A1_3 l1_3.length c1_3] 43 (0, 0)) (by (with_reducible repeat (first | refine blk_drewN ?_ _ | refine blk_drew ?_ | refine blk_alloc ?_ _)); exact BK809.out) hb); have n8_ := Aside0.mk (below_step (by repeat (first | (with_reducible first | exact HB.out | apply below_alloc | apply pw_below_drewN | apply below_drew1 | refine below_set ?_ GE808.out | refine below_set ?_ GE809.out) | exact HB.out)) hb); have n9_ := Aside0.mk (hbox); have n10_ := Aside0.mk ((by rw [hg]; exact (below_size (by repeat (first | (with_reducible first | exact HB.out | apply below_alloc | apply pw_below_drewN | apply below_drew1 | refine below_set ?_ GE808.out | refine below_set ?_ GE809.out) | exact HB.out))) : w.heap.size ≤ gb837)); have n11_ := Aside0.mk ((by rw [hg]; exact (below_size (by repeat (first | (with_reducible first | exact HB.out | apply below_alloc | apply pw_below_drewN | apply below_drew1 | refine below_set ?_ GE808.out | refine below_set ?_ GE809.out) | exact HB.out))) : w.heap.size ≤ gb837)); have n12_ := Aside0.mk ((by rw [hg]; exact Nat.ne_of_lt (blk_lt (g := gb808) (o := .cells #[.int .i64 a0_0, .int .i64 a0_1, .slice A0_2 l0_2.length c0_2, .slice A0_3 l0_3.length c0_3] 43 (0, 0)) (by (with_reducible repeat (first | refine blk_drewN ?_ _ | refine blk_drew ?_ | refine blk_alloc ?_ _)); exact BK808.out)) : gb808 ≠ gb837)); have n13_ := Aside0.mk ((by rw [hg]; exact Nat.ne_of_gt (blk_lt (g := gb808) (o := .cells #[.int .i64 a0_0, .int .i64 a0_1, .slice A0_2 l0_2.length c0_2, .slice A0_3 l0_3.length c0_3] 43 (0, 0)) (by (with_reducible repeat (first | refine blk_drewN ?_ _ | refine blk_drew ?_ | refine blk_alloc ?_ _)); exact BK808.out)) : gb837 ≠ gb808)); have n14_ := Aside0.mk ((by rw [hg]; exact Nat.ne_of_lt (blk_lt (g := gb809) (o := .cells #[.int .i64 a1_0, .int .i64 a1_1, .slice A1_2 l1_2.length c1_2, .slice A1_3 l1_3.length c1_3] 43 (0, 0)) (by (with_reducible repeat (first | refine blk_drewN ?_ _ | refine blk_drew ?_ | refine blk_alloc ?_ _)); exact BK809.out)) : gb809 ≠ gb837)); have n15_ := Aside0.mk ((by rw [hg]; exact Nat.ne_of_gt (blk_lt (g := gb809) (o := .cells #[.int .i64 a1_0, .int .i64 a1_1, .slice A1_2 l1_2.length c1_2, .slice A1_3 l1_3.length c1_3] 43 (0, 0)) (by (with_reducible repeat (first | refine blk_drewN ?_ _ | refine blk_drew ?_ | refine blk_alloc ?_ _)); exact BK809.out)) : gb837 ≠ gb809)); clear HO816; clear HO819; clear HO824; clear HO827; clear HO833; clear HO836; clear BK808; clear BK809; clear HB; have HO816 := n0_; have HO819 := n1_; have HO824 := n2_; have HO827 := n3_; have HO833 := n4_; have HO836 := n5_; have BK808 := n6_; have BK809 := n7_; have HB := n8_; have BK837 := n9_; have GW837 := n10_; have GE837 := n11_; have NB808_837 := n12_; have NB837_808 := n13_; have NB809_837 := n14_; have NB837_809 := n15_; clear n0_ n1_ n2_ n3_ n4_ n5_ n6_ n7_ n8_ n9_ n10_ n11_ n12_ n13_ n14_ n15_; clear hb hbox hg; have hnb50 := NB837_808.out; have hnc50 := NB808_837.out; have hnb51 := NB837_809.out; have hnc51 := NB809_837.out; have hcz52_0 : w49.cell? ⟨gb837, 0, none⟩ = some (.int .i64 0) := (blk_cell BK837.out 0).trans rfl; have hcz52_1 : w49.cell? ⟨gb837, 1, none⟩ = some (.int .i64 0) := (blk_cell BK837.out 1).trans rfl; have hcz52_2 : w49.cell? ⟨gb837, 2, none⟩ = some (.slice none 0 0) := (blk_cell BK837.out 2).trans rfl; have hcz52_3 : w49.cell? ⟨gb837, 3, none⟩ = some (.slice none 0 0) := (blk_cell BK837.out 3).trans rfl; have hfz52_0 := blk_frozen BK837.out 0; have hfz52_1 := blk_frozen BK837.out 1; have hfz52_2 := blk_frozen BK837.out 2; have hfz52_3 := blk_frozen BK837.out 3; obtain ⟨Ao53, co53, eo53⟩ := Kd.R_slice HO833.out; subst eo53; obtain ⟨Ao54, co54, eo54⟩ := Kd.R_slice HO836.out; subst eo54; have hcz55_0 : w49.cell? ⟨gb809, 0, none⟩ = some (.int .i64 a1_0) := (blk_cell BK809.out 0).trans rfl; have hcz55_1 : w49.cell? ⟨gb809, 1, none⟩ = some (.int .i64 a1_1) := (blk_cell BK809.out 1).trans rfl; have hcz55_2 : w49.cell? ⟨gb809, 2, none⟩ = some (.slice A1_2 l1_2.length c1_2) := (blk_cell BK809.out 2).trans rfl; have hcz55_3 : w49.cell? ⟨gb809, 3, none⟩ = some (.slice A1_3 l1_3.length c1_3) := (blk_cell BK809.out 3).trans rfl; have hfz55_0 := blk_frozen BK809.out 0; have hfz55_1 := blk_frozen BK809.out 1; have hfz55_2 := blk_frozen BK809.out 2; have hfz55_3 := blk_frozen BK809.out 3) | ((with_reducible refine gate_callee (f := 33) rfl ?_); refine goesL_ (some 28) rfl rfl Try.func33 (by kernel_rfl) rfl #[.agg #[.int .i64 a1_0, .int .i64 a1_1, .slice A1_2 l1_2.length c1_2, .slice A1_3 l1_3.length c1_3]] rfl (by (try simp only [List.map_toArray, List.map_cons, List.map_nil]); first | done | rfl | (simp only [List.length_drop, List.length_take]; rfl)) ?_; (with_reducible refine (laws_toTerm.calls k a1_0 a1_1 _ _ l1_2 _ _ l1_3 t838 t839 t840 t843 _ ?side1 ?side2 ?side3 ?side4 A23.out).mono ?_); (case side1 => exact Kd.C_below HR1_2.out (by repeat (first | (with_reducible first | exact HB.out | apply below_alloc | apply pw_below_drewN | apply below_drew1 | refine below_set ?_ GE808.out | refine below_set ?_ GE809.out | refine below_set ?_ GE837.out) | exact HB.out))); (case side2 => exact HC1_2.out); (case side3 => exact Kd.C_below HR1_3.out (by repeat (first | (with_reducible first | exact HB.out | apply below_alloc | apply pw_below_drewN | apply below_drew1 | refine below_set ?_ GE808.out | refine below_set ?_ GE809.out | refine below_set ?_ GE837.out) | exact HB.out))); (case side4 => exact HC1_3.out); rintro e w56 ⟨v841, v844, rfl, ho0, ho1, hb⟩; refine ⟨_, rfl, ?_⟩; have n0_ := Aside0.mk (Kd.R_elder' (by (with_reducible repeat (first | apply Kd.R_alloc | apply Kd.R_drewN | apply Kd.R_drew)); exact (Kd.R_mono (Kd.R_far (p := ⟨gb837, 3, none⟩) (Kd.R_far (p := ⟨gb837, 2, none⟩) (Kd.R_far (p := ⟨gb837, 1, none⟩) (Kd.R_far (p := ⟨gb837, 0, none⟩) (Kd.R_types HO816.out BK837.out (by decide)) (fun _ hk => hk.2) (.int .i64 t829)) (fun _ hk => hk.2) (.int .i64 t830)) (fun _ hk => hk.2) (.slice Ao53 t831.length co53)) (fun _ hk => hk.2) (.slice Ao54 t834.length co54)) (fun _ h_ => h_.1))) (Kd.R_base ho0) hb); have n1_ := Aside0.mk (Kd.R_mono (Kd.R_told (Kd.R_told (Kd.R_old (by (with_reducible repeat (first | apply Kd.R_alloc | apply Kd.R_drewN | apply Kd.R_drew)); exact (Kd.R_mono (Kd.R_far (p := ⟨gb837, 3, none⟩) (Kd.R_far (p := ⟨gb837, 2, none⟩) (Kd.R_far (p := ⟨gb837, 1, none⟩) (Kd.R_far (p := ⟨gb837, 0, none⟩) (Kd.R_mono HO819.out (fun k_ hk => (⟨hk, hk.2⟩ : _ ∧ k_ ≠ gb837))) (fun _ hk => hk.2) (.int .i64 t829)) (fun _ hk => hk.2) (.int .i64 t830)) (fun _ hk => hk.2) (.slice Ao53 t831.length co53)) (fun _ hk => hk.2) (.slice Ao54 t834.length co54)) (fun _ h_ => h_.1))) hb) (Kd.R_base ho0)) (Kd.R_base ho1)) (fun _ h_ => h_.1)); have n2_ := Aside0.mk (Kd.R_elder' (by (with_reducible repeat (first | apply Kd.R_alloc | apply Kd.R_drewN | apply Kd.R_drew)); exact (Kd.R_mono (Kd.R_far (p := ⟨gb837, 3, none⟩) (Kd.R_far (p := ⟨gb837, 2, none⟩) (Kd.R_far (p := ⟨gb837, 1, none⟩) (Kd.R_far (p := ⟨gb837, 0, none⟩) (Kd.R_types HO824.out BK837.out (by decide)) (fun _ hk => hk.2) (.int .i64 t829)) (fun _ hk => hk.2) (.int .i64 t830)) (fun _ hk => hk.2) (.slice Ao53 t831.length co53)) (fun _ hk => hk.2) (.slice Ao54 t834.length co54)) (fun _ h_ => h_.1))) (Kd.R_base ho0) hb); have n3_ := Aside0.mk (Kd.R_mono (Kd.R_told (Kd.R_told (Kd.R_old (by (with_reducible repeat (first | apply Kd.R_alloc | apply Kd.R_drewN | apply Kd.R_drew)); exact (Kd.R_mono (Kd.R_far (p := ⟨gb837, 3, none⟩) (Kd.R_far (p := ⟨gb837, 2, none⟩) (Kd.R_far (p := ⟨gb837, 1, none⟩) (Kd.R_far (p := ⟨gb837, 0, none⟩) (Kd.R_mono HO827.out (fun k_ hk => (⟨hk, hk.2⟩ : _ ∧ k_ ≠ gb837))) (fun _ hk => hk.2) (.int .i64 t829)) (fun _ hk => hk.2) (.int .i64 t830)) (fun _ hk => hk.2) (.slice Ao53 t831.length co53)) (fun _ hk => hk.2) (.slice Ao54 t834.length co54)) (fun _ h_ => h_.1))) hb) (Kd.R_base ho0)) (Kd.R_base ho1)) (fun _ h_ => h_.1)); have n4_ := Aside0.mk (Kd.R_elder' (by (with_reducible repeat (first | apply Kd.R_alloc | apply Kd.R_drewN | apply Kd.R_drew)); exact (Kd.R_mono (Kd.R_far (p := ⟨gb837, 3, none⟩) (Kd.R_far (p := ⟨gb837, 2, none⟩) (Kd.R_far (p := ⟨gb837, 1, none⟩) (Kd.R_far (p := ⟨gb837, 0, none⟩) (Kd.R_types HO833.out BK837.out (by decide)) (fun _ hk => hk.2) (.int .i64 t829)) (fun _ hk => hk.2) (.int .i64 t830)) (fun _ hk => hk.2) (.slice Ao53 t831.length co53)) (fun _ hk => hk.2) (.slice Ao54 t834.length co54)) (fun _ h_ => h_.1))) (Kd.R_base ho0) hb); have n5_ := Aside0.mk (Kd.R_mono (Kd.R_told (Kd.R_told (Kd.R_old (by (with_reducible repeat (first | apply Kd.R_alloc | apply Kd.R_drewN | apply Kd.R_drew)); exact (Kd.R_mono (Kd.R_far (p := ⟨gb837, 3, none⟩) (Kd.R_far (p := ⟨gb837, 2, none⟩) (Kd.R_far (p := ⟨gb837, 1, none⟩) (Kd.R_far (p := ⟨gb837, 0, none⟩) (Kd.R_mono HO836.out (fun k_ hk => (⟨hk, hk.2⟩ : _ ∧ k_ ≠ gb837))) (fun _ hk => hk.2) (.int .i64 t829)) (fun _ hk => hk.2) (.int .i64 t830)) (fun _ hk => hk.2) (.slice Ao53 t831.length co53)) (fun _ hk => hk.2) (.slice Ao54 t834.length co54)) (fun _ h_ => h_.1))) hb) (Kd.R_base ho0)) (Kd.R_base ho1)) (fun _ h_ => h_.1)); have n6_ := Aside0.mk (Kd.R_lower (Kd.R_new' (Kd.R_new' (Kd.R_new' ho0 (Kd.R_lt (by (with_reducible repeat (first | apply Kd.R_alloc | apply Kd.R_drewN | apply Kd.R_drew)); exact (Kd.R_mono (Kd.R_far (p := ⟨gb837, 3, none⟩) (Kd.R_far (p := ⟨gb837, 2, none⟩) (Kd.R_far (p := ⟨gb837, 1, none⟩) (Kd.R_far (p := ⟨gb837, 0, none⟩) (Kd.R_types HO816.out BK837.out (by decide)) (fun _ hk => hk.2) (.int .i64 t829)) (fun _ hk => hk.2) (.int .i64 t830)) (fun _ hk => hk.2) (.slice Ao53 t831.length co53)) (fun _ hk => hk.2) (.slice Ao54 t834.length co54)) (fun _ h_ => h_.1))))) (Kd.R_lt (by (with_reducible repeat (first | apply Kd.R_alloc | apply Kd.R_drewN | apply Kd.R_drew)); exact (Kd.R_mono (Kd.R_far (p := ⟨gb837, 3, none⟩) (Kd.R_far (p := ⟨gb837, 2, none⟩) (Kd.R_far (p := ⟨gb837, 1, none⟩) (Kd.R_far (p := ⟨gb837, 0, none⟩) (Kd.R_types HO824.out BK837.out (by decide)) (fun _ hk => hk.2) (.int .i64 t829)) (fun _ hk => hk.2) (.int .i64 t830)) (fun _ hk => hk.2) (.slice Ao53 t831.length co53)) (fun _ hk => hk.2) (.slice Ao54 t834.length co54)) (fun _ h_ => h_.1))))) (Kd.R_lt (by (with_reducible repeat (first | apply Kd.R_alloc | apply Kd.R_drewN | apply Kd.R_drew)); exact (Kd.R_mono (Kd.R_far (p := ⟨gb837, 3, none⟩) (Kd.R_far (p := ⟨gb837, 2, none⟩) (Kd.R_far (p := ⟨gb837, 1, none⟩) (Kd.R_far (p := ⟨gb837, 0, none⟩) (Kd.R_types HO833.out BK837.out (by decide)) (fun _ hk => hk.2) (.int .i64 t829)) (fun _ hk => hk.2) (.int .i64 t830)) (fun _ hk => hk.2) (.slice Ao53 t831.length co53)) (fun _ hk => hk.2) (.slice Ao54 t834.length co54)) (fun _ h_ => h_.1))))) (below_size (by repeat (first | (with_reducible first | exact HB.out | apply below_alloc | apply pw_below_drewN | apply below_drew1 | refine below_set ?_ GE808.out | refine below_set ?_ GE809.out | refine below_set ?_ GE837.out) | exact HB.out)))); have n7_ := Aside0.mk (Kd.R_lower (Kd.R_newB (Kd.R_new' (Kd.R_new' (Kd.R_new' (Kd.R_new' (Kd.R_new' (Kd.R_new' ho1 (Kd.R_lt (by (with_reducible repeat (first | apply Kd.R_alloc | apply Kd.R_drewN | apply Kd.R_drew)); exact (Kd.R_mono (Kd.R_far (p := ⟨gb837, 3, none⟩) (Kd.R_far (p := ⟨gb837, 2, none⟩) (Kd.R_far (p := ⟨gb837, 1, none⟩) (Kd.R_far (p := ⟨gb837, 0, none⟩) (Kd.R_types HO816.out BK837.out (by decide)) (fun _ hk => hk.2) (.int .i64 t829)) (fun _ hk => hk.2) (.int .i64 t830)) (fun _ hk => hk.2) (.slice Ao53 t831.length co53)) (fun _ hk => hk.2) (.slice Ao54 t834.length co54)) (fun _ h_ => h_.1))))) (Kd.R_lt (by (with_reducible repeat (first | apply Kd.R_alloc | apply Kd.R_drewN | apply Kd.R_drew)); exact (Kd.R_mono (Kd.R_far (p := ⟨gb837, 3, none⟩) (Kd.R_far (p := ⟨gb837, 2, none⟩) (Kd.R_far (p := ⟨gb837, 1, none⟩) (Kd.R_far (p := ⟨gb837, 0, none⟩) (Kd.R_mono HO819.out (fun k_ hk => (⟨hk, hk.2⟩ : _ ∧ k_ ≠ gb837))) (fun _ hk => hk.2) (.int .i64 t829)) (fun _ hk => hk.2) (.int .i64 t830)) (fun _ hk => hk.2) (.slice Ao53 t831.length co53)) (fun _ hk => hk.2) (.slice Ao54 t834.length co54)) (fun _ h_ => h_.1))))) (Kd.R_lt (by (with_reducible repeat (first | apply Kd.R_alloc | apply Kd.R_drewN | apply Kd.R_drew)); exact (Kd.R_mono (Kd.R_far (p := ⟨gb837, 3, none⟩) (Kd.R_far (p := ⟨gb837, 2, none⟩) (Kd.R_far (p := ⟨gb837, 1, none⟩) (Kd.R_far (p := ⟨gb837, 0, none⟩) (Kd.R_types HO824.out BK837.out (by decide)) (fun _ hk => hk.2) (.int .i64 t829)) (fun _ hk => hk.2) (.int .i64 t830)) (fun _ hk => hk.2) (.slice Ao53 t831.length co53)) (fun _ hk => hk.2) (.slice Ao54 t834.length co54)) (fun _ h_ => h_.1))))) (Kd.R_lt (by (with_reducible repeat (first | apply Kd.R_alloc | apply Kd.R_drewN | apply Kd.R_drew)); exact (Kd.R_mono (Kd.R_far (p := ⟨gb837, 3, none⟩) (Kd.R_far (p := ⟨gb837, 2, none⟩) (Kd.R_far (p := ⟨gb837, 1, none⟩) (Kd.R_far (p := ⟨gb837, 0, none⟩) (Kd.R_mono HO827.out (fun k_ hk => (⟨hk, hk.2⟩ : _ ∧ k_ ≠ gb837))) (fun _ hk => hk.2) (.int .i64 t829)) (fun _ hk => hk.2) (.int .i64 t830)) (fun _ hk => hk.2) (.slice Ao53 t831.length co53)) (fun _ hk => hk.2) (.slice Ao54 t834.length co54)) (fun _ h_ => h_.1))))) (Kd.R_lt (by (with_reducible repeat (first | apply Kd.R_alloc | apply Kd.R_drewN | apply Kd.R_drew)); exact (Kd.R_mono (Kd.R_far (p := ⟨gb837, 3, none⟩) (Kd.R_far (p := ⟨gb837, 2, none⟩) (Kd.R_far (p := ⟨gb837, 1, none⟩) (Kd.R_far (p := ⟨gb837, 0, none⟩) (Kd.R_types HO833.out BK837.out (by decide)) (fun _ hk => hk.2) (.int .i64 t829)) (fun _ hk => hk.2) (.int .i64 t830)) (fun _ hk => hk.2) (.slice Ao53 t831.length co53)) (fun _ hk => hk.2) (.slice Ao54 t834.length co54)) (fun _ h_ => h_.1))))) (Kd.R_lt (by (with_reducible repeat (first | apply Kd.R_alloc | apply Kd.R_drewN | apply Kd.R_drew)); exact (Kd.R_mono (Kd.R_far (p := ⟨gb837, 3, none⟩) (Kd.R_far (p := ⟨gb837, 2, none⟩) (Kd.R_far (p := ⟨gb837, 1, none⟩) (Kd.R_far (p := ⟨gb837, 0, none⟩) (Kd.R_mono HO836.out (fun k_ hk => (⟨hk, hk.2⟩ : _ ∧ k_ ≠ gb837))) (fun _ hk => hk.2) (.int .i64 t829)) (fun _ hk => hk.2) (.int .i64 t830)) (fun _ hk => hk.2) (.slice Ao53 t831.length co53)) (fun _ hk => hk.2) (.slice Ao54 t834.length co54)) (fun _ h_ => h_.1))))) (g := gb837) (o := .cells #[.int .i64 t829, .int .i64 t830, .slice Ao53 t831.length co53, .slice Ao54 t834.length co54] 48 (0, 0)) (by (with_reducible repeat (first | refine blk_drewN ?_ _ | refine blk_drew ?_ | refine blk_alloc ?_ _)); refine blk_put (cs := #[.int .i64 t829, .int .i64 t830, .slice Ao53 t831.length co53, .slice none 0 0]) ?_ 3 _ rfl; (with_reducible repeat (first | refine blk_drewN ?_ _ | refine blk_drew ?_ | refine blk_alloc ?_ _)); refine blk_put (cs := #[.int .i64 t829, .int .i64 t830, .slice none 0 0, .slice none 0 0]) ?_ 2 _ rfl; (with_reducible repeat (first | refine blk_drewN ?_ _ | refine blk_drew ?_ | refine blk_alloc ?_ _)); refine blk_put (cs := #[.int .i64 t829, .int .i64 0, .slice none 0 0, .slice none 0 0]) ?_ 1 _ rfl; (with_reducible repeat (first | refine blk_drewN ?_ _ | refine blk_drew ?_ | refine blk_alloc ?_ _)); refine blk_put (cs := #[.int .i64 0, .int .i64 0, .slice none 0 0, .slice none 0 0]) ?_ 0 _ rfl; (with_reducible repeat (first | refine blk_drewN ?_ _ | refine blk_drew ?_ | refine blk_alloc ?_ _)); exact BK837.out)) (below_size (by repeat (first | (with_reducible first | exact HB.out | apply below_alloc | apply pw_below_drewN | apply below_drew1 | refine below_set ?_ GE808.out | refine below_set ?_ GE809.out | refine below_set ?_ GE837.out) | exact HB.out)))); have n8_ := Aside0.mk (blk_below (g := gb808) (o := .cells #[.int .i64 a0_0, .int .i64 a0_1, .slice A0_2 l0_2.length c0_2, .slice A0_3 l0_3.length c0_3] 43 (0, 0)) (by (with_reducible repeat (first | refine blk_drewN ?_ _ | refine blk_drew ?_ | refine blk_alloc ?_ _)); refine blk_far ?_ NB808_837.out _; (with_reducible repeat (first | refine blk_drewN ?_ _ | refine blk_drew ?_ | refine blk_alloc ?_ _)); refine blk_far ?_ NB808_837.out _; (with_reducible repeat (first | refine blk_drewN ?_ _ | refine blk_drew ?_ | refine blk_alloc ?_ _)); refine blk_far ?_ NB808_837.out _; (with_reducible repeat (first | refine blk_drewN ?_ _ | refine blk_drew ?_ | refine blk_alloc ?_ _)); refine blk_far ?_ NB808_837.out _; (with_reducible repeat (first | refine blk_drewN ?_ _ | refine blk_drew ?_ | refine blk_alloc ?_ _)); exact BK808.out) hb); have n9_ := Aside0.mk (blk_below (g := gb809) (o := .cells #[.int .i64 a1_0, .int .i64 a1_1, .slice A1_2 l1_2.length c1_2, .slice A1_3 l1_3.length c1_3] 43 (0, 0)) (by (with_reducible repeat (first | refine blk_drewN ?_ _ | refine blk_drew ?_ | refine blk_alloc ?_ _)); refine blk_far ?_ NB809_837.out _; (with_reducible repeat (first | refine blk_drewN ?_ _ | refine blk_drew ?_ | refine blk_alloc ?_ _)); refine blk_far ?_ NB809_837.out _; (with_reducible repeat (first | refine blk_drewN ?_ _ | refine blk_drew ?_ | refine blk_alloc ?_ _)); refine blk_far ?_ NB809_837.out _; (with_reducible repeat (first | refine blk_drewN ?_ _ | refine blk_drew ?_ | refine blk_alloc ?_ _)); refine blk_far ?_ NB809_837.out _; (with_reducible repeat (first | refine blk_drewN ?_ _ | refine blk_drew ?_ | refine blk_alloc ?_ _)); exact BK809.out) hb); have n10_ := Aside0.mk (blk_below (g := gb837) (o := .cells #[.int .i64 t829, .int .i64 t830, .slice Ao53 t831.length co53, .slice Ao54 t834.length co54] 48 (0, 0)) (by (with_reducible repeat (first | refine blk_drewN ?_ _ | refine blk_drew ?_ | refine blk_alloc ?_ _)); refine blk_put (cs := #[.int .i64 t829, .int .i64 t830, .slice Ao53 t831.length co53, .slice none 0 0]) ?_ 3 _ rfl; (with_reducible repeat (first | refine blk_drewN ?_ _ | refine blk_drew ?_ | refine blk_alloc ?_ _)); refine blk_put (cs := #[.int .i64 t829, .int .i64 t830, .slice none 0 0, .slice none 0 0]) ?_ 2 _ rfl; (with_reducible repeat (first | refine blk_drewN ?_ _ | refine blk_drew ?_ | refine blk_alloc ?_ _)); refine blk_put (cs := #[.int .i64 t829, .int .i64 0, .slice none 0 0, .slice none 0 0]) ?_ 1 _ rfl; (with_reducible repeat (first | refine blk_drewN ?_ _ | refine blk_drew ?_ | refine blk_alloc ?_ _)); refine blk_put (cs := #[.int .i64 0, .int .i64 0, .slice none 0 0, .slice none 0 0]) ?_ 0 _ rfl; (with_reducible repeat (first | refine blk_drewN ?_ _ | refine blk_drew ?_ | refine blk_alloc ?_ _)); exact BK837.out) hb); have n11_ := Aside0.mk (below_step (by repeat (first | (with_reducible first | exact HB.out | apply below_alloc | apply pw_below_drewN | apply below_drew1 | refine below_set ?_ GE808.out | refine below_set ?_ GE809.out | refine below_set ?_ GE837.out) | exact HB.out)) hb); clear HO816; clear HO819; clear HO824; clear HO827; clear HO833; clear HO836; clear BK808; clear BK809; clear BK837; clear HB; have HO816 := n0_; have HO819 := n1_; have HO824 := n2_; have HO827 := n3_; have HO833 := n4_; have HO836 := n5_; have HO842 := n6_; have HO845 := n7_; have BK808 := n8_; have BK809 := n9_; have BK837 := n10_; have HB := n11_; clear n0_ n1_ n2_ n3_ n4_ n5_ n6_ n7_ n8_ n9_ n10_ n11_; (try clear hb); (try clear hb2); (try clear hk); (try clear hi); (try clear ho0); (try clear ho1)) | ((with_reducible refine gate_dst (N := 8) rfl ?_); refine box_event ?hg (N := 8) ?hd (cs := #[.int .i64 0, .int .i64 0, .slice none 0 0, .slice none 0 0]) (t := 48) ?hr ?_; (case hd => rfl); (case hg => rfl); (case hr => first | (go_simp; done) | (go_simp; rfl)); intro gb846 hg w57 hbox hb; have n0_ := Aside0.mk (Kd.R_below (by (with_reducible repeat (first | apply Kd.R_alloc | apply Kd.R_drewN | apply Kd.R_drew)); exact HO816.out) hb); have n1_ := Aside0.mk (Kd.R_below (Kd.R_elderB (by (with_reducible repeat (first | apply Kd.R_alloc | apply Kd.R_drewN | apply Kd.R_drew)); exact HO819.out) gb846 (Nat.le_of_eq hg.symm)) hb); have n2_ := Aside0.mk (Kd.R_below (by (with_reducible repeat (first | apply Kd.R_alloc | apply Kd.R_drewN | apply Kd.R_drew)); exact HO824.out) hb); have n3_ := Aside0.mk (Kd.R_below (Kd.R_elderB (by (with_reducible repeat (first | apply Kd.R_alloc | apply Kd.R_drewN | apply Kd.R_drew)); exact HO827.out) gb846 (Nat.le_of_eq hg.symm)) hb); have n4_ := Aside0.mk (Kd.R_below (by (with_reducible repeat (first | apply Kd.R_alloc | apply Kd.R_drewN | apply Kd.R_drew)); exact HO833.out) hb); have n5_ := Aside0.mk (Kd.R_below (Kd.R_elderB (by (with_reducible repeat (first | apply Kd.R_alloc | apply Kd.R_drewN | apply Kd.R_drew)); exact HO836.out) gb846 (Nat.le_of_eq hg.symm)) hb); have n6_ := Aside0.mk (Kd.R_below (by (with_reducible repeat (first | apply Kd.R_alloc | apply Kd.R_drewN | apply Kd.R_drew)); exact HO842.out) hb); have n7_ := Aside0.mk (Kd.R_below (Kd.R_elderB (by (with_reducible repeat (first | apply Kd.R_alloc | apply Kd.R_drewN | apply Kd.R_drew)); exact HO845.out) gb846 (Nat.le_of_eq hg.symm)) hb); have n8_ := Aside0.mk (blk_below (g := gb808) (o := .cells #[.int .i64 a0_0, .int .i64 a0_1, .slice A0_2 l0_2.length c0_2, .slice A0_3 l0_3.length c0_3] 43 (0, 0)) (by (with_reducible repeat (first | refine blk_drewN ?_ _ | refine blk_drew ?_ | refine blk_alloc ?_ _)); exact BK808.out) hb); have n9_ := Aside0.mk (blk_below (g := gb809) (o := .cells #[.int .i64 a1_0, .int .i64 a1_1, .slice A1_2 l1_2.length c1_2, .slice A1_3 l1_3.length c1_3] 43 (0, 0)) (by (with_reducible repeat (first | refine blk_drewN ?_ _ | refine blk_drew ?_ | refine blk_alloc ?_ _)); exact BK809.out) hb); have n10_ := Aside0.mk (blk_below (g := gb837) (o := .cells #[.int .i64 t829, .int .i64 t830, .slice Ao53 t831.length co53, .slice Ao54 t834.length co54] 48 (0, 0)) (by (with_reducible repeat (first | refine blk_drewN ?_ _ | refine blk_drew ?_ | refine blk_alloc ?_ _)); exact BK837.out) hb); have n11_ := Aside0.mk (below_step (by repeat (first | (with_reducible first | exact HB.out | apply below_alloc | apply pw_below_drewN | apply below_drew1 | refine below_set ?_ GE808.out | refine below_set ?_ GE809.out | refine below_set ?_ GE837.out) | exact HB.out)) hb); have n12_ := Aside0.mk (hbox); have n13_ := Aside0.mk ((by rw [hg]; exact (below_size (by repeat (first | (with_reducible first | exact HB.out | apply below_alloc | apply pw_below_drewN | apply below_drew1 | refine below_set ?_ GE808.out | refine below_set ?_ GE809.out | refine below_set ?_ GE837.out) | exact HB.out))) : w.heap.size ≤ gb846)); have n14_ := Aside0.mk ((by rw [hg]; exact (below_size (by repeat (first | (with_reducible first | exact HB.out | apply below_alloc | apply pw_below_drewN | apply below_drew1 | refine below_set ?_ GE808.out | refine below_set ?_ GE809.out | refine below_set ?_ GE837.out) | exact HB.out))) : w.heap.size ≤ gb846)); have n15_ := Aside0.mk ((by rw [hg]; exact Nat.ne_of_lt (blk_lt (g := gb808) (o := .cells #[.int .i64 a0_0, .int .i64 a0_1, .slice A0_2 l0_2.length c0_2, .slice A0_3 l0_3.length c0_3] 43 (0, 0)) (by (with_reducible repeat (first | refine blk_drewN ?_ _ | refine blk_drew ?_ | refine blk_alloc ?_ _)); exact BK808.out)) : gb808 ≠ gb846)); have n16_ := Aside0.mk ((by rw [hg]; exact Nat.ne_of_gt (blk_lt (g := gb808) (o := .cells #[.int .i64 a0_0, .int .i64 a0_1, .slice A0_2 l0_2.length c0_2, .slice A0_3 l0_3.length c0_3] 43 (0, 0)) (by (with_reducible repeat (first | refine blk_drewN ?_ _ | refine blk_drew ?_ | refine blk_alloc ?_ _)); exact BK808.out)) : gb846 ≠ gb808)); have n17_ := Aside0.mk ((by rw [hg]; exact Nat.ne_of_lt (blk_lt (g := gb809) (o := .cells #[.int .i64 a1_0, .int .i64 a1_1, .slice A1_2 l1_2.length c1_2, .slice A1_3 l1_3.length c1_3] 43 (0, 0)) (by (with_reducible repeat (first | refine blk_drewN ?_ _ | refine blk_drew ?_ | refine blk_alloc ?_ _)); exact BK809.out)) : gb809 ≠ gb846)); have n18_ := Aside0.mk ((by rw [hg]; exact Nat.ne_of_gt (blk_lt (g := gb809) (o := .cells #[.int .i64 a1_0, .int .i64 a1_1, .slice A1_2 l1_2.length c1_2, .slice A1_3 l1_3.length c1_3] 43 (0, 0)) (by (with_reducible repeat (first | refine blk_drewN ?_ _ | refine blk_drew ?_ | refine blk_alloc ?_ _)); exact BK809.out)) : gb846 ≠ gb809)); have n19_ := Aside0.mk ((by rw [hg]; exact Nat.ne_of_lt (blk_lt (g := gb837) (o := .cells #[.int .i64 t829, .int .i64 t830, .slice Ao53 t831.length co53, .slice Ao54 t834.length co54] 48 (0, 0)) (by (with_reducible repeat (first | refine blk_drewN ?_ _ | refine blk_drew ?_ | refine blk_alloc ?_ _)); exact BK837.out)) : gb837 ≠ gb846)); have n20_ := Aside0.mk ((by rw [hg]; exact Nat.ne_of_gt (blk_lt (g := gb837) (o := .cells #[.int .i64 t829, .int .i64 t830, .slice Ao53 t831.length co53, .slice Ao54 t834.length co54] 48 (0, 0)) (by (with_reducible repeat (first | refine blk_drewN ?_ _ | refine blk_drew ?_ | refine blk_alloc ?_ _)); exact BK837.out)) : gb846 ≠ gb837)); clear HO816; clear HO819; clear HO824; clear HO827; clear HO833; clear HO836; clear HO842; clear HO845; clear BK808; clear BK809; clear BK837; clear HB; have HO816 := n0_; have HO819 := n1_; have HO824 := n2_; have HO827 := n3_; have HO833 := n4_; have HO836 := n5_; have HO842 := n6_; have HO845 := n7_; have BK808 := n8_; have BK809 := n9_; have BK837 := n10_; have HB := n11_; have BK846 := n12_; have GW846 := n13_; have GE846 := n14_; have NB808_846 := n15_; have NB846_808 := n16_; have NB809_846 := n17_; have NB846_809 := n18_; have NB837_846 := n19_; have NB846_837 := n20_; clear n0_ n1_ n2_ n3_ n4_ n5_ n6_ n7_ n8_ n9_ n10_ n11_ n12_ n13_ n14_ n15_ n16_ n17_ n18_ n19_ n20_; clear hb hbox hg; have hnb58 := NB846_808.out; have hnc58 := NB808_846.out; have hnb59 := NB846_809.out; have hnc59 := NB809_846.out; have hnb60 := NB846_837.out; have hnc60 := NB837_846.out; have hcz61_0 : w57.cell? ⟨gb846, 0, none⟩ = some (.int .i64 0) := (blk_cell BK846.out 0).trans rfl; have hcz61_1 : w57.cell? ⟨gb846, 1, none⟩ = some (.int .i64 0) := (blk_cell BK846.out 1).trans rfl; have hcz61_2 : w57.cell? ⟨gb846, 2, none⟩ = some (.slice none 0 0) := (blk_cell BK846.out 2).trans rfl; have hcz61_3 : w57.cell? ⟨gb846, 3, none⟩ = some (.slice none 0 0) := (blk_cell BK846.out 3).trans rfl; have hfz61_0 := blk_frozen BK846.out 0; have hfz61_1 := blk_frozen BK846.out 1; have hfz61_2 := blk_frozen BK846.out 2; have hfz61_3 := blk_frozen BK846.out 3; obtain ⟨Ao62, co62, eo62⟩ := Kd.R_slice HO842.out; subst eo62; obtain ⟨Ao63, co63, eo63⟩ := Kd.R_slice HO845.out; subst eo63; have hcz64_0 : w57.cell? ⟨gb837, 0, none⟩ = some (.int .i64 t829) := (blk_cell BK837.out 0).trans rfl; have hcz64_1 : w57.cell? ⟨gb837, 1, none⟩ = some (.int .i64 t830) := (blk_cell BK837.out 1).trans rfl; have hcz64_2 : w57.cell? ⟨gb837, 2, none⟩ = some (.slice Ao53 t831.length co53) := (blk_cell BK837.out 2).trans rfl; have hcz64_3 : w57.cell? ⟨gb837, 3, none⟩ = some (.slice Ao54 t834.length co54) := (blk_cell BK837.out 3).trans rfl; have hfz64_0 := blk_frozen BK837.out 0; have hfz64_1 := blk_frozen BK837.out 1; have hfz64_2 := blk_frozen BK837.out 2; have hfz64_3 := blk_frozen BK837.out 3) | ((with_reducible refine gate_callee (f := 43) rfl ?_); refine goesL_ (some 31) rfl rfl Try.func43 (by kernel_rfl) rfl #[.agg #[.int .i64 t829, .int .i64 t830, .slice Ao53 t831.length co53, .slice Ao54 t834.length co54], .agg #[.int .i64 t838, .int .i64 t839, .slice Ao62 t840.length co62, .slice Ao63 t843.length co63]] rfl (by (try simp only [List.map_toArray, List.map_cons, List.map_nil]); first | done | rfl | (simp only [List.length_drop, List.length_take]; rfl)) ?_; (with_reducible refine (impl_SameTerms.calls k t829 t830 _ _ t831 _ _ t834 t838 t839 _ _ t840 _ _ t843 t847 _ ?side1 ?side2 ?side3 ?side4 ?side5 ?side6 ?side7 ?side8 A24.out).mono ?_); (case side1 => refine (Kd.R_reads' (e := 3) (base := w.heap.size) (ok := fun k_ => (((True ∧ some k_ ≠ (.slice Ao42 t814.length co42 : Value).ownBlock) ∧ some k_ ≠ (.slice Ao44 t822.length co44 : Value).ownBlock) ∧ some k_ ≠ (.slice Ao62 t840.length co62 : Value).ownBlock)) (n := t831.length) (c := co53) ?_).2.2; exact (by (with_reducible repeat (first | apply Kd.R_alloc | apply Kd.R_drewN | apply Kd.R_drew)); exact (Kd.R_mono (Kd.R_far (p := ⟨gb846, 3, none⟩) (Kd.R_far (p := ⟨gb846, 2, none⟩) (Kd.R_far (p := ⟨gb846, 1, none⟩) (Kd.R_far (p := ⟨gb846, 0, none⟩) (Kd.R_types HO833.out BK846.out (by decide)) (fun _ hk => hk.2) (.int .i64 t838)) (fun _ hk => hk.2) (.int .i64 t839)) (fun _ hk => hk.2) (.slice Ao62 t840.length co62)) (fun _ hk => hk.2) (.slice Ao63 t843.length co63)) (fun _ h_ => h_.1)))); (case side2 => exact (Kd.R_reads' HO833.out).2.1); (case side3 => refine (Kd.R_reads' (e := 48) (base := w.heap.size) (ok := fun k_ => ((((((((some k_ ≠ (.slice Ao53 t831.length co53 : Value).ownBlock ∧ some k_ ≠ (.slice Ao42 t814.length co42 : Value).ownBlock) ∧ some k_ ≠ (.slice Ao43 t817.length co43 : Value).ownBlock) ∧ some k_ ≠ (.slice Ao44 t822.length co44 : Value).ownBlock) ∧ some k_ ≠ (.slice Ao45 t825.length co45 : Value).ownBlock) ∧ k_ ≠ gb837) ∧ some k_ ≠ (.slice Ao62 t840.length co62 : Value).ownBlock) ∧ some k_ ≠ (.slice Ao63 t843.length co63 : Value).ownBlock) ∧ k_ ≠ gb846)) (n := t834.length) (c := co54) ?_).2.2; exact (by (with_reducible repeat (first | apply Kd.R_alloc | apply Kd.R_drewN | apply Kd.R_drew)); exact (Kd.R_mono (Kd.R_far (p := ⟨gb846, 3, none⟩) (Kd.R_far (p := ⟨gb846, 2, none⟩) (Kd.R_far (p := ⟨gb846, 1, none⟩) (Kd.R_far (p := ⟨gb846, 0, none⟩) (Kd.R_mono HO836.out (fun k_ hk => (⟨hk, hk.2⟩ : _ ∧ k_ ≠ gb846))) (fun _ hk => hk.2) (.int .i64 t838)) (fun _ hk => hk.2) (.int .i64 t839)) (fun _ hk => hk.2) (.slice Ao62 t840.length co62)) (fun _ hk => hk.2) (.slice Ao63 t843.length co63)) (fun _ h_ => h_.1)))); (case side4 => exact (Kd.R_reads' HO836.out).2.1); (case side5 => refine (Kd.R_reads' (e := 3) (base := w.heap.size) (ok := fun k_ => (((True ∧ some k_ ≠ (.slice Ao42 t814.length co42 : Value).ownBlock) ∧ some k_ ≠ (.slice Ao44 t822.length co44 : Value).ownBlock) ∧ some k_ ≠ (.slice Ao53 t831.length co53 : Value).ownBlock)) (n := t840.length) (c := co62) ?_).2.2; exact (by (with_reducible repeat (first | apply Kd.R_alloc | apply Kd.R_drewN | apply Kd.R_drew)); exact (Kd.R_mono (Kd.R_far (p := ⟨gb846, 3, none⟩) (Kd.R_far (p := ⟨gb846, 2, none⟩) (Kd.R_far (p := ⟨gb846, 1, none⟩) (Kd.R_far (p := ⟨gb846, 0, none⟩) (Kd.R_types HO842.out BK846.out (by decide)) (fun _ hk => hk.2) (.int .i64 t838)) (fun _ hk => hk.2) (.int .i64 t839)) (fun _ hk => hk.2) (.slice Ao62 t840.length co62)) (fun _ hk => hk.2) (.slice Ao63 t843.length co63)) (fun _ h_ => h_.1)))); (case side6 => exact (Kd.R_reads' HO842.out).2.1); (case side7 => refine (Kd.R_reads' (e := 48) (base := w.heap.size) (ok := fun k_ => ((((((((some k_ ≠ (.slice Ao62 t840.length co62 : Value).ownBlock ∧ some k_ ≠ (.slice Ao42 t814.length co42 : Value).ownBlock) ∧ some k_ ≠ (.slice Ao43 t817.length co43 : Value).ownBlock) ∧ some k_ ≠ (.slice Ao44 t822.length co44 : Value).ownBlock) ∧ some k_ ≠ (.slice Ao45 t825.length co45 : Value).ownBlock) ∧ some k_ ≠ (.slice Ao53 t831.length co53 : Value).ownBlock) ∧ some k_ ≠ (.slice Ao54 t834.length co54 : Value).ownBlock) ∧ k_ ≠ gb837) ∧ k_ ≠ gb846)) (n := t843.length) (c := co63) ?_).2.2; exact (by (with_reducible repeat (first | apply Kd.R_alloc | apply Kd.R_drewN | apply Kd.R_drew)); exact (Kd.R_mono (Kd.R_far (p := ⟨gb846, 3, none⟩) (Kd.R_far (p := ⟨gb846, 2, none⟩) (Kd.R_far (p := ⟨gb846, 1, none⟩) (Kd.R_far (p := ⟨gb846, 0, none⟩) (Kd.R_mono HO845.out (fun k_ hk => (⟨hk, hk.2⟩ : _ ∧ k_ ≠ gb846))) (fun _ hk => hk.2) (.int .i64 t838)) (fun _ hk => hk.2) (.int .i64 t839)) (fun _ hk => hk.2) (.slice Ao62 t840.length co62)) (fun _ hk => hk.2) (.slice Ao63 t843.length co63)) (fun _ h_ => h_.1)))); (case side8 => exact (Kd.R_reads' HO845.out).2.1); rintro e w65 ⟨rfl, hb⟩; refine ⟨_, rfl, ?_⟩; have n0_ := Aside0.mk (Kd.R_below (by (with_reducible repeat (first | apply Kd.R_alloc | apply Kd.R_drewN | apply Kd.R_drew)); exact (Kd.R_mono (Kd.R_far (p := ⟨gb846, 3, none⟩) (Kd.R_far (p := ⟨gb846, 2, none⟩) (Kd.R_far (p := ⟨gb846, 1, none⟩) (Kd.R_far (p := ⟨gb846, 0, none⟩) (Kd.R_types HO816.out BK846.out (by decide)) (fun _ hk => hk.2) (.int .i64 t838)) (fun _ hk => hk.2) (.int .i64 t839)) (fun _ hk => hk.2) (.slice Ao62 t840.length co62)) (fun _ hk => hk.2) (.slice Ao63 t843.length co63)) (fun _ h_ => h_.1))) hb); have n1_ := Aside0.mk (Kd.R_below (by (with_reducible repeat (first | apply Kd.R_alloc | apply Kd.R_drewN | apply Kd.R_drew)); exact (Kd.R_mono (Kd.R_far (p := ⟨gb846, 3, none⟩) (Kd.R_far (p := ⟨gb846, 2, none⟩) (Kd.R_far (p := ⟨gb846, 1, none⟩) (Kd.R_far (p := ⟨gb846, 0, none⟩) (Kd.R_mono HO819.out (fun k_ hk => (⟨hk, hk.2⟩ : _ ∧ k_ ≠ gb846))) (fun _ hk => hk.2) (.int .i64 t838)) (fun _ hk => hk.2) (.int .i64 t839)) (fun _ hk => hk.2) (.slice Ao62 t840.length co62)) (fun _ hk => hk.2) (.slice Ao63 t843.length co63)) (fun _ h_ => h_.1))) hb); have n2_ := Aside0.mk (Kd.R_below (by (with_reducible repeat (first | apply Kd.R_alloc | apply Kd.R_drewN | apply Kd.R_drew)); exact (Kd.R_mono (Kd.R_far (p := ⟨gb846, 3, none⟩) (Kd.R_far (p := ⟨gb846, 2, none⟩) (Kd.R_far (p := ⟨gb846, 1, none⟩) (Kd.R_far (p := ⟨gb846, 0, none⟩) (Kd.R_types HO824.out BK846.out (by decide)) (fun _ hk => hk.2) (.int .i64 t838)) (fun _ hk => hk.2) (.int .i64 t839)) (fun _ hk => hk.2) (.slice Ao62 t840.length co62)) (fun _ hk => hk.2) (.slice Ao63 t843.length co63)) (fun _ h_ => h_.1))) hb); have n3_ := Aside0.mk (Kd.R_below (by (with_reducible repeat (first | apply Kd.R_alloc | apply Kd.R_drewN | apply Kd.R_drew)); exact (Kd.R_mono (Kd.R_far (p := ⟨gb846, 3, none⟩) (Kd.R_far (p := ⟨gb846, 2, none⟩) (Kd.R_far (p := ⟨gb846, 1, none⟩) (Kd.R_far (p := ⟨gb846, 0, none⟩) (Kd.R_mono HO827.out (fun k_ hk => (⟨hk, hk.2⟩ : _ ∧ k_ ≠ gb846))) (fun _ hk => hk.2) (.int .i64 t838)) (fun _ hk => hk.2) (.int .i64 t839)) (fun _ hk => hk.2) (.slice Ao62 t840.length co62)) (fun _ hk => hk.2) (.slice Ao63 t843.length co63)) (fun _ h_ => h_.1))) hb); have n4_ := Aside0.mk (Kd.R_below (by (with_reducible repeat (first | apply Kd.R_alloc | apply Kd.R_drewN | apply Kd.R_drew)); exact (Kd.R_mono (Kd.R_far (p := ⟨gb846, 3, none⟩) (Kd.R_far (p := ⟨gb846, 2, none⟩) (Kd.R_far (p := ⟨gb846, 1, none⟩) (Kd.R_far (p := ⟨gb846, 0, none⟩) (Kd.R_types HO833.out BK846.out (by decide)) (fun _ hk => hk.2) (.int .i64 t838)) (fun _ hk => hk.2) (.int .i64 t839)) (fun _ hk => hk.2) (.slice Ao62 t840.length co62)) (fun _ hk => hk.2) (.slice Ao63 t843.length co63)) (fun _ h_ => h_.1))) hb); have n5_ := Aside0.mk (Kd.R_below (by (with_reducible repeat (first | apply Kd.R_alloc | apply Kd.R_drewN | apply Kd.R_drew)); exact (Kd.R_mono (Kd.R_far (p := ⟨gb846, 3, none⟩) (Kd.R_far (p := ⟨gb846, 2, none⟩) (Kd.R_far (p := ⟨gb846, 1, none⟩) (Kd.R_far (p := ⟨gb846, 0, none⟩) (Kd.R_mono HO836.out (fun k_ hk => (⟨hk, hk.2⟩ : _ ∧ k_ ≠ gb846))) (fun _ hk => hk.2) (.int .i64 t838)) (fun _ hk => hk.2) (.int .i64 t839)) (fun _ hk => hk.2) (.slice Ao62 t840.length co62)) (fun _ hk => hk.2) (.slice Ao63 t843.length co63)) (fun _ h_ => h_.1))) hb); have n6_ := Aside0.mk (Kd.R_below (by (with_reducible repeat (first | apply Kd.R_alloc | apply Kd.R_drewN | apply Kd.R_drew)); exact (Kd.R_mono (Kd.R_far (p := ⟨gb846, 3, none⟩) (Kd.R_far (p := ⟨gb846, 2, none⟩) (Kd.R_far (p := ⟨gb846, 1, none⟩) (Kd.R_far (p := ⟨gb846, 0, none⟩) (Kd.R_types HO842.out BK846.out (by decide)) (fun _ hk => hk.2) (.int .i64 t838)) (fun _ hk => hk.2) (.int .i64 t839)) (fun _ hk => hk.2) (.slice Ao62 t840.length co62)) (fun _ hk => hk.2) (.slice Ao63 t843.length co63)) (fun _ h_ => h_.1))) hb); have n7_ := Aside0.mk (Kd.R_below (by (with_reducible repeat (first | apply Kd.R_alloc | apply Kd.R_drewN | apply Kd.R_drew)); exact (Kd.R_mono (Kd.R_far (p := ⟨gb846, 3, none⟩) (Kd.R_far (p := ⟨gb846, 2, none⟩) (Kd.R_far (p := ⟨gb846, 1, none⟩) (Kd.R_far (p := ⟨gb846, 0, none⟩) (Kd.R_mono HO845.out (fun k_ hk => (⟨hk, hk.2⟩ : _ ∧ k_ ≠ gb846))) (fun _ hk => hk.2) (.int .i64 t838)) (fun _ hk => hk.2) (.int .i64 t839)) (fun _ hk => hk.2) (.slice Ao62 t840.length co62)) (fun _ hk => hk.2) (.slice Ao63 t843.length co63)) (fun _ h_ => h_.1))) hb); have n8_ := Aside0.mk (blk_below (g := gb808) (o := .cells #[.int .i64 a0_0, .int .i64 a0_1, .slice A0_2 l0_2.length c0_2, .slice A0_3 l0_3.length c0_3] 43 (0, 0)) (by (with_reducible repeat (first | refine blk_drewN ?_ _ | refine blk_drew ?_ | refine blk_alloc ?_ _)); refine blk_far ?_ NB808_846.out _; (with_reducible repeat (first | refine blk_drewN ?_ _ | refine blk_drew ?_ | refine blk_alloc ?_ _)); refine blk_far ?_ NB808_846.out _; (with_reducible repeat (first | refine blk_drewN ?_ _ | refine blk_drew ?_ | refine blk_alloc ?_ _)); refine blk_far ?_ NB808_846.out _; (with_reducible repeat (first | refine blk_drewN ?_ _ | refine blk_drew ?_ | refine blk_alloc ?_ _)); refine blk_far ?_ NB808_846.out _; (with_reducible repeat (first | refine blk_drewN ?_ _ | refine blk_drew ?_ | refine blk_alloc ?_ _)); exact BK808.out) hb); have n9_ := Aside0.mk (blk_below (g := gb809) (o := .cells #[.int .i64 a1_0, .int .i64 a1_1, .slice A1_2 l1_2.length c1_2, .slice A1_3 l1_3.length c1_3] 43 (0, 0)) (by (with_reducible repeat (first | refine blk_drewN ?_ _ | refine blk_drew ?_ | refine blk_alloc ?_ _)); refine blk_far ?_ NB809_846.out _; (with_reducible repeat (first | refine blk_drewN ?_ _ | refine blk_drew ?_ | refine blk_alloc ?_ _)); refine blk_far ?_ NB809_846.out _; (with_reducible repeat (first | refine blk_drewN ?_ _ | refine blk_drew ?_ | refine blk_alloc ?_ _)); refine blk_far ?_ NB809_846.out _; (with_reducible repeat (first | refine blk_drewN ?_ _ | refine blk_drew ?_ | refine blk_alloc ?_ _)); refine blk_far ?_ NB809_846.out _; (with_reducible repeat (first | refine blk_drewN ?_ _ | refine blk_drew ?_ | refine blk_alloc ?_ _)); exact BK809.out) hb); have n10_ := Aside0.mk (blk_below (g := gb837) (o := .cells #[.int .i64 t829, .int .i64 t830, .slice Ao53 t831.length co53, .slice Ao54 t834.length co54] 48 (0, 0)) (by (with_reducible repeat (first | refine blk_drewN ?_ _ | refine blk_drew ?_ | refine blk_alloc ?_ _)); refine blk_far ?_ NB837_846.out _; (with_reducible repeat (first | refine blk_drewN ?_ _ | refine blk_drew ?_ | refine blk_alloc ?_ _)); refine blk_far ?_ NB837_846.out _; (with_reducible repeat (first | refine blk_drewN ?_ _ | refine blk_drew ?_ | refine blk_alloc ?_ _)); refine blk_far ?_ NB837_846.out _; (with_reducible repeat (first | refine blk_drewN ?_ _ | refine blk_drew ?_ | refine blk_alloc ?_ _)); refine blk_far ?_ NB837_846.out _; (with_reducible repeat (first | refine blk_drewN ?_ _ | refine blk_drew ?_ | refine blk_alloc ?_ _)); exact BK837.out) hb); have n11_ := Aside0.mk (blk_below (g := gb846) (o := .cells #[.int .i64 t838, .int .i64 t839, .slice Ao62 t840.length co62, .slice Ao63 t843.length co63] 48 (0, 0)) (by (with_reducible repeat (first | refine blk_drewN ?_ _ | refine blk_drew ?_ | refine blk_alloc ?_ _)); refine blk_put (cs := #[.int .i64 t838, .int .i64 t839, .slice Ao62 t840.length co62, .slice none 0 0]) ?_ 3 _ rfl; (with_reducible repeat (first | refine blk_drewN ?_ _ | refine blk_drew ?_ | refine blk_alloc ?_ _)); refine blk_put (cs := #[.int .i64 t838, .int .i64 t839, .slice none 0 0, .slice none 0 0]) ?_ 2 _ rfl; (with_reducible repeat (first | refine blk_drewN ?_ _ | refine blk_drew ?_ | refine blk_alloc ?_ _)); refine blk_put (cs := #[.int .i64 t838, .int .i64 0, .slice none 0 0, .slice none 0 0]) ?_ 1 _ rfl; (with_reducible repeat (first | refine blk_drewN ?_ _ | refine blk_drew ?_ | refine blk_alloc ?_ _)); refine blk_put (cs := #[.int .i64 0, .int .i64 0, .slice none 0 0, .slice none 0 0]) ?_ 0 _ rfl; (with_reducible repeat (first | refine blk_drewN ?_ _ | refine blk_drew ?_ | refine blk_alloc ?_ _)); exact BK846.out) hb); have n12_ := Aside0.mk (below_step (by repeat (first | (with_reducible first | exact HB.out | apply below_alloc | apply pw_below_drewN | apply below_drew1 | refine below_set ?_ GE808.out | refine below_set ?_ GE809.out | refine below_set ?_ GE837.out | refine below_set ?_ GE846.out) | exact HB.out)) hb); clear HO816; clear HO819; clear HO824; clear HO827; clear HO833; clear HO836; clear HO842; clear HO845; clear BK808; clear BK809; clear BK837; clear BK846; clear HB; have HO816 := n0_; have HO819 := n1_; have HO824 := n2_; have HO827 := n3_; have HO833 := n4_; have HO836 := n5_; have HO842 := n6_; have HO845 := n7_; have BK808 := n8_; have BK809 := n9_; have BK837 := n10_; have BK846 := n11_; have HB := n12_; clear n0_ n1_ n2_ n3_ n4_ n5_ n6_ n7_ n8_ n9_ n10_ n11_ n12_; (try clear hb); (try clear hb2); (try clear hk); (try clear hi)))
            have n0_ := Aside0.mk (Kd.R_drew HO816.out)
            have n1_ := Aside0.mk (Kd.R_drew HO819.out)
            have n2_ := Aside0.mk (Kd.R_drew HO824.out)
            have n3_ := Aside0.mk (Kd.R_drew HO827.out)
            have n4_ := Aside0.mk (Kd.R_drew HO833.out)
            have n5_ := Aside0.mk (Kd.R_drew HO836.out)
            have n6_ := Aside0.mk (Kd.R_drew HO842.out)
            have n7_ := Aside0.mk (Kd.R_drew HO845.out)
            have n8_ := Aside0.mk (blk_drew BK808.out)
            have n9_ := Aside0.mk (blk_drew BK809.out)
            have n10_ := Aside0.mk (blk_drew BK837.out)
            have n11_ := Aside0.mk (blk_drew BK846.out)
            have n12_ := Aside0.mk (below_drew1 HB.out)
            clear HO816
            clear HO819
            clear HO824
            clear HO827
            clear HO833
            clear HO836
            clear HO842
            clear HO845
            clear BK808
            clear BK809
            clear BK837
            clear BK846
            clear HB
            have HO816 := n0_
            have HO819 := n1_
            have HO824 := n2_
            have HO827 := n3_
            have HO833 := n4_
            have HO836 := n5_
            have HO842 := n6_
            have HO845 := n7_
            have BK808 := n8_
            have BK809 := n9_
            have BK837 := n10_
            have BK846 := n11_
            have HB := n12_
            clear n0_ n1_ n2_ n3_ n4_ n5_ n6_ n7_ n8_ n9_ n10_ n11_ n12_
            refine start_ (n := 5) (S := fun w' => w'.cell? ⟨gb837, 0, none⟩ = some (.int .i64 t829) ∧ w'.cell? ⟨gb837, 1, none⟩ = some (.int .i64 t830) ∧ w'.cell? ⟨gb837, 2, none⟩ = some (.slice Ao53 t831.length co53) ∧ w'.cell? ⟨gb837, 3, none⟩ = some (.slice Ao54 t834.length co54) ∧ w'.cell? ⟨gb808, 0, none⟩ = some (.int .i64 a0_0) ∧ w'.cell? ⟨gb808, 1, none⟩ = some (.int .i64 a0_1) ∧ w'.cell? ⟨gb808, 2, none⟩ = some (.slice A0_2 l0_2.length c0_2) ∧ w'.cell? ⟨gb808, 3, none⟩ = some (.slice A0_3 l0_3.length c0_3)) (ds := []) #[false, false, false, false, false] (by kernel_rfl) rfl rfl ⟨(blk_cell BK837.out 0).trans rfl, (blk_cell BK837.out 1).trans rfl, (blk_cell BK837.out 2).trans rfl, (blk_cell BK837.out 3).trans rfl, (blk_cell BK808.out 0).trans rfl, (blk_cell BK808.out 1).trans rfl, (blk_cell BK808.out 2).trans rfl, (blk_cell BK808.out 3).trans rfl⟩ (fun hHeld => ?_)
            generalize w65.drew = w66 at HO816 HO819 HO824 HO827 HO833 HO836 HO842 HO845 BK808 BK809 BK837 BK846 HB hHeld ⊢
            refine take_ (i := 0) (N := some 35) (v := ?_) (a' := ?_) #[true, false, false, false, false] rfl rfl (by kernel_rfl) (fun _ _ _ h => h) (Or.inl ⟨by rfl, ?_⟩) hHeld ?_ ?_
            rotate_left
            · rintro w' ⟨s0, s1, s2, s3, s4, s5, s6, s7⟩
              go_simp
              with_reducible rfl
            rotate_left
            · simp only [Act.put, List.setIfInBounds_toArray, List.set_cons_zero, List.set_cons_succ, i64_w, i32_w]
              rfl
            refine take_ (i := 1) (N := some 36) (v := ?_) (a' := ?_) #[true, true, false, false, false] rfl rfl (by kernel_rfl) (fun _ _ _ h => h) (Or.inl ⟨by rfl, ?_⟩) hHeld ?_ ?_
            rotate_left
            · rintro w' ⟨s0, s1, s2, s3, s4, s5, s6, s7⟩
              go_simp
              with_reducible rfl
            rotate_left
            · simp only [Act.put, List.setIfInBounds_toArray, List.set_cons_zero, List.set_cons_succ, i64_w, i32_w]
              rfl
            refine one_ (i := 2) (N := some 37) #[true, true, true, false, false] rfl rfl (by kernel_rfl) (by decide) (fun K hK => ?_)
            refine goes_ Try.func33 (by kernel_rfl) rfl #[.agg #[.int .i64 a0_0, .int .i64 a0_1, .slice A0_2 l0_2.length c0_2, .slice A0_3 l0_3.length c0_3]] (by rfl) rfl rfl (by (try simp only [List.map_toArray, List.map_cons, List.map_nil]); first | done | rfl | (simp only [List.length_drop, List.length_take]; rfl)) ?_
            with_reducible refine (laws_toTerm.calls k a0_0 a0_1 _ _ l0_2 _ _ l0_3 t848 t849 t850 t853 _ ?side1 ?side2 ?side3 ?side4 A26.out).mono ?_
            (case side1 => repeat (first | exact (Kd.C_below HR0_2.out HB.out) | (with_reducible refine Kd.C_alloc ?_ _) | (with_reducible refine Kd.C_drewN ?_ _) | (with_reducible refine Kd.C_drew ?_)))
            (case side2 => exact HC0_2.out)
            (case side3 => repeat (first | exact (Kd.C_below HR0_3.out HB.out) | (with_reducible refine Kd.C_alloc ?_ _) | (with_reducible refine Kd.C_drewN ?_ _) | (with_reducible refine Kd.C_drew ?_)))
            (case side4 => exact HC0_3.out)
            rintro e w67 ⟨v851, v854, rfl, ho0, ho1, hb⟩
            refine ⟨_, rfl, ?_⟩
            have n0_ := Aside0.mk (Kd.R_elder' (by (with_reducible repeat (first | apply Kd.R_alloc | apply Kd.R_drewN | apply Kd.R_drew)); exact HO816.out) (Kd.R_base ho0) hb)
            have n1_ := Aside0.mk (Kd.R_mono (Kd.R_told (Kd.R_told (Kd.R_old (by (with_reducible repeat (first | apply Kd.R_alloc | apply Kd.R_drewN | apply Kd.R_drew)); exact HO819.out) hb) (Kd.R_base ho0)) (Kd.R_base ho1)) (fun _ h_ => h_.1))
            have n2_ := Aside0.mk (Kd.R_elder' (by (with_reducible repeat (first | apply Kd.R_alloc | apply Kd.R_drewN | apply Kd.R_drew)); exact HO824.out) (Kd.R_base ho0) hb)
            have n3_ := Aside0.mk (Kd.R_mono (Kd.R_told (Kd.R_told (Kd.R_old (by (with_reducible repeat (first | apply Kd.R_alloc | apply Kd.R_drewN | apply Kd.R_drew)); exact HO827.out) hb) (Kd.R_base ho0)) (Kd.R_base ho1)) (fun _ h_ => h_.1))
            have n4_ := Aside0.mk (Kd.R_elder' (by (with_reducible repeat (first | apply Kd.R_alloc | apply Kd.R_drewN | apply Kd.R_drew)); exact HO833.out) (Kd.R_base ho0) hb)
            have n5_ := Aside0.mk (Kd.R_mono (Kd.R_told (Kd.R_told (Kd.R_old (by (with_reducible repeat (first | apply Kd.R_alloc | apply Kd.R_drewN | apply Kd.R_drew)); exact HO836.out) hb) (Kd.R_base ho0)) (Kd.R_base ho1)) (fun _ h_ => h_.1))
            have n6_ := Aside0.mk (Kd.R_elder' (by (with_reducible repeat (first | apply Kd.R_alloc | apply Kd.R_drewN | apply Kd.R_drew)); exact HO842.out) (Kd.R_base ho0) hb)
            have n7_ := Aside0.mk (Kd.R_mono (Kd.R_told (Kd.R_told (Kd.R_old (by (with_reducible repeat (first | apply Kd.R_alloc | apply Kd.R_drewN | apply Kd.R_drew)); exact HO845.out) hb) (Kd.R_base ho0)) (Kd.R_base ho1)) (fun _ h_ => h_.1))
            have n8_ := Aside0.mk (Kd.R_lower (Kd.R_new' (Kd.R_new' (Kd.R_new' (Kd.R_new' ho0 (Kd.R_lt (by (with_reducible repeat (first | apply Kd.R_alloc | apply Kd.R_drewN | apply Kd.R_drew)); exact HO816.out))) (Kd.R_lt (by (with_reducible repeat (first | apply Kd.R_alloc | apply Kd.R_drewN | apply Kd.R_drew)); exact HO824.out))) (Kd.R_lt (by (with_reducible repeat (first | apply Kd.R_alloc | apply Kd.R_drewN | apply Kd.R_drew)); exact HO833.out))) (Kd.R_lt (by (with_reducible repeat (first | apply Kd.R_alloc | apply Kd.R_drewN | apply Kd.R_drew)); exact HO842.out))) (below_size (by repeat (first | (with_reducible first | exact HB.out | apply below_alloc | apply pw_below_drewN | apply below_drew1 | refine below_set ?_ GE808.out | refine below_set ?_ GE809.out | refine below_set ?_ GE837.out | refine below_set ?_ GE846.out) | exact HB.out))))
            have n9_ := Aside0.mk (Kd.R_lower (Kd.R_newB (Kd.R_newB (Kd.R_new' (Kd.R_new' (Kd.R_new' (Kd.R_new' (Kd.R_new' (Kd.R_new' (Kd.R_new' (Kd.R_new' ho1 (Kd.R_lt (by (with_reducible repeat (first | apply Kd.R_alloc | apply Kd.R_drewN | apply Kd.R_drew)); exact HO816.out))) (Kd.R_lt (by (with_reducible repeat (first | apply Kd.R_alloc | apply Kd.R_drewN | apply Kd.R_drew)); exact HO819.out))) (Kd.R_lt (by (with_reducible repeat (first | apply Kd.R_alloc | apply Kd.R_drewN | apply Kd.R_drew)); exact HO824.out))) (Kd.R_lt (by (with_reducible repeat (first | apply Kd.R_alloc | apply Kd.R_drewN | apply Kd.R_drew)); exact HO827.out))) (Kd.R_lt (by (with_reducible repeat (first | apply Kd.R_alloc | apply Kd.R_drewN | apply Kd.R_drew)); exact HO833.out))) (Kd.R_lt (by (with_reducible repeat (first | apply Kd.R_alloc | apply Kd.R_drewN | apply Kd.R_drew)); exact HO836.out))) (Kd.R_lt (by (with_reducible repeat (first | apply Kd.R_alloc | apply Kd.R_drewN | apply Kd.R_drew)); exact HO842.out))) (Kd.R_lt (by (with_reducible repeat (first | apply Kd.R_alloc | apply Kd.R_drewN | apply Kd.R_drew)); exact HO845.out))) (g := gb837) (o := .cells #[.int .i64 t829, .int .i64 t830, .slice Ao53 t831.length co53, .slice Ao54 t834.length co54] 48 (0, 0)) (by (with_reducible repeat (first | refine blk_drewN ?_ _ | refine blk_drew ?_ | refine blk_alloc ?_ _)); exact BK837.out)) (g := gb846) (o := .cells #[.int .i64 t838, .int .i64 t839, .slice Ao62 t840.length co62, .slice Ao63 t843.length co63] 48 (0, 0)) (by (with_reducible repeat (first | refine blk_drewN ?_ _ | refine blk_drew ?_ | refine blk_alloc ?_ _)); exact BK846.out)) (below_size (by repeat (first | (with_reducible first | exact HB.out | apply below_alloc | apply pw_below_drewN | apply below_drew1 | refine below_set ?_ GE808.out | refine below_set ?_ GE809.out | refine below_set ?_ GE837.out | refine below_set ?_ GE846.out) | exact HB.out))))
            have n10_ := Aside0.mk (blk_below (g := gb808) (o := .cells #[.int .i64 a0_0, .int .i64 a0_1, .slice A0_2 l0_2.length c0_2, .slice A0_3 l0_3.length c0_3] 43 (0, 0)) (by (with_reducible repeat (first | refine blk_drewN ?_ _ | refine blk_drew ?_ | refine blk_alloc ?_ _)); exact BK808.out) hb)
            have n11_ := Aside0.mk (blk_below (g := gb809) (o := .cells #[.int .i64 a1_0, .int .i64 a1_1, .slice A1_2 l1_2.length c1_2, .slice A1_3 l1_3.length c1_3] 43 (0, 0)) (by (with_reducible repeat (first | refine blk_drewN ?_ _ | refine blk_drew ?_ | refine blk_alloc ?_ _)); exact BK809.out) hb)
            have n12_ := Aside0.mk (blk_below (g := gb837) (o := .cells #[.int .i64 t829, .int .i64 t830, .slice Ao53 t831.length co53, .slice Ao54 t834.length co54] 48 (0, 0)) (by (with_reducible repeat (first | refine blk_drewN ?_ _ | refine blk_drew ?_ | refine blk_alloc ?_ _)); exact BK837.out) hb)
            have n13_ := Aside0.mk (blk_below (g := gb846) (o := .cells #[.int .i64 t838, .int .i64 t839, .slice Ao62 t840.length co62, .slice Ao63 t843.length co63] 48 (0, 0)) (by (with_reducible repeat (first | refine blk_drewN ?_ _ | refine blk_drew ?_ | refine blk_alloc ?_ _)); exact BK846.out) hb)
            have n14_ := Aside0.mk (below_step (by repeat (first | (with_reducible first | exact HB.out | apply below_alloc | apply pw_below_drewN | apply below_drew1 | refine below_set ?_ GE808.out | refine below_set ?_ GE809.out | refine below_set ?_ GE837.out | refine below_set ?_ GE846.out) | exact HB.out)) hb)
            clear HO816
            clear HO819
            clear HO824
            clear HO827
            clear HO833
            clear HO836
            clear HO842
            clear HO845
            clear BK808
            clear BK809
            clear BK837
            clear BK846
            clear HB
            have HO816 := n0_
            have HO819 := n1_
            have HO824 := n2_
            have HO827 := n3_
            have HO833 := n4_
            have HO836 := n5_
            have HO842 := n6_
            have HO845 := n7_
            have HO852 := n8_
            have HO855 := n9_
            have BK808 := n10_
            have BK809 := n11_
            have BK837 := n12_
            have BK846 := n13_
            have HB := n14_
            clear n0_ n1_ n2_ n3_ n4_ n5_ n6_ n7_ n8_ n9_ n10_ n11_ n12_ n13_ n14_
            (try clear hb)
            (try clear hb2)
            (try clear hk)
            (try clear hi)
            (try clear ho0)
            (try clear ho1)
            obtain ⟨Ao68, co68, eo68⟩ := Kd.R_slice HO852.out
            (first | subst eo68 | (injection eo68 with f1_ f2_ f3_; have f4_ := f1_.symm; have f5_ := f3_.symm; clear f1_ f2_ f3_; subst f4_; subst f5_))
            obtain ⟨Ao69, co69, eo69⟩ := Kd.R_slice HO855.out
            (first | subst eo69 | (injection eo69 with f1_ f2_ f3_; have f4_ := f1_.symm; have f5_ := f3_.symm; clear f1_ f2_ f3_; subst f4_; subst f5_))
            refine hK.out _ _ ⟨(blk_cell BK837.out 0).trans rfl, (blk_cell BK837.out 1).trans rfl, (blk_cell BK837.out 2).trans rfl, (blk_cell BK837.out 3).trans rfl, (blk_cell BK808.out 0).trans rfl, (blk_cell BK808.out 1).trans rfl, (blk_cell BK808.out 2).trans rfl, (blk_cell BK808.out 3).trans rfl⟩ (fun hHeld => ?_)
            clear hK K
            refine norm_ (a' := ?_) ?_ ?_
            rotate_left
            · show Act.put _ (some 37) _ = _
              simp only [Act.put, List.setIfInBounds_toArray, List.set_cons_zero, List.set_cons_succ, i64_w, i32_w]
              rfl
            refine one_ (i := 3) (N := some 38) #[true, true, true, true, false] rfl rfl (by kernel_rfl) (by decide) (fun K hK => ?_)
            refine goes_ Try.func35 (by kernel_rfl) rfl #[.agg #[.int .i64 t829, .int .i64 t830, .slice Ao53 t831.length co53, .slice Ao54 t834.length co54], .agg #[.int .i64 t848, .int .i64 t849, .slice Ao68 t850.length co68, .slice Ao69 t853.length co69]] (by rfl) rfl rfl (by (try simp only [List.map_toArray, List.map_cons, List.map_nil]); first | done | rfl | (simp only [List.length_drop, List.length_take]; rfl)) ?_
            with_reducible refine (laws_eqTerm.calls k t829 t830 _ _ t831 _ _ t834 t848 t849 _ _ t850 _ _ t853 true _ ?side1 ?side2 ?side3 ?side4 ?side5 ?side6 ?side7 ?side8 A27.out).mono ?_
            (case side1 => repeat (first | exact (Kd.R_reads' HO833.out).2.2 | (with_reducible refine Kd.C_alloc ?_ _) | (with_reducible refine Kd.C_drewN ?_ _) | (with_reducible refine Kd.C_drew ?_)))
            (case side2 => exact (Kd.R_reads' HO833.out).2.1)
            (case side3 => repeat (first | exact (Kd.R_reads' HO836.out).2.2 | (with_reducible refine Kd.C_alloc ?_ _) | (with_reducible refine Kd.C_drewN ?_ _) | (with_reducible refine Kd.C_drew ?_)))
            (case side4 => exact (Kd.R_reads' HO836.out).2.1)
            (case side5 => repeat (first | exact (Kd.R_reads' HO852.out).2.2 | (with_reducible refine Kd.C_alloc ?_ _) | (with_reducible refine Kd.C_drewN ?_ _) | (with_reducible refine Kd.C_drew ?_)))
            (case side6 => exact (Kd.R_reads' HO852.out).2.1)
            (case side7 => repeat (first | exact (Kd.R_reads' HO855.out).2.2 | (with_reducible refine Kd.C_alloc ?_ _) | (with_reducible refine Kd.C_drewN ?_ _) | (with_reducible refine Kd.C_drew ?_)))
            (case side8 => exact (Kd.R_reads' HO855.out).2.1)
            rintro e w70 ⟨rfl, hb⟩
            refine ⟨_, rfl, ?_⟩
            have n0_ := Aside0.mk (Kd.R_below (by (with_reducible repeat (first | apply Kd.R_alloc | apply Kd.R_drewN | apply Kd.R_drew)); exact HO816.out) hb)
            have n1_ := Aside0.mk (Kd.R_below (by (with_reducible repeat (first | apply Kd.R_alloc | apply Kd.R_drewN | apply Kd.R_drew)); exact HO819.out) hb)
            have n2_ := Aside0.mk (Kd.R_below (by (with_reducible repeat (first | apply Kd.R_alloc | apply Kd.R_drewN | apply Kd.R_drew)); exact HO824.out) hb)
            have n3_ := Aside0.mk (Kd.R_below (by (with_reducible repeat (first | apply Kd.R_alloc | apply Kd.R_drewN | apply Kd.R_drew)); exact HO827.out) hb)
            have n4_ := Aside0.mk (Kd.R_below (by (with_reducible repeat (first | apply Kd.R_alloc | apply Kd.R_drewN | apply Kd.R_drew)); exact HO833.out) hb)
            have n5_ := Aside0.mk (Kd.R_below (by (with_reducible repeat (first | apply Kd.R_alloc | apply Kd.R_drewN | apply Kd.R_drew)); exact HO836.out) hb)
            have n6_ := Aside0.mk (Kd.R_below (by (with_reducible repeat (first | apply Kd.R_alloc | apply Kd.R_drewN | apply Kd.R_drew)); exact HO842.out) hb)
            have n7_ := Aside0.mk (Kd.R_below (by (with_reducible repeat (first | apply Kd.R_alloc | apply Kd.R_drewN | apply Kd.R_drew)); exact HO845.out) hb)
            have n8_ := Aside0.mk (Kd.R_below (by (with_reducible repeat (first | apply Kd.R_alloc | apply Kd.R_drewN | apply Kd.R_drew)); exact HO852.out) hb)
            have n9_ := Aside0.mk (Kd.R_below (by (with_reducible repeat (first | apply Kd.R_alloc | apply Kd.R_drewN | apply Kd.R_drew)); exact HO855.out) hb)
            have n10_ := Aside0.mk (blk_below (g := gb808) (o := .cells #[.int .i64 a0_0, .int .i64 a0_1, .slice A0_2 l0_2.length c0_2, .slice A0_3 l0_3.length c0_3] 43 (0, 0)) (by (with_reducible repeat (first | refine blk_drewN ?_ _ | refine blk_drew ?_ | refine blk_alloc ?_ _)); exact BK808.out) hb)
            have n11_ := Aside0.mk (blk_below (g := gb809) (o := .cells #[.int .i64 a1_0, .int .i64 a1_1, .slice A1_2 l1_2.length c1_2, .slice A1_3 l1_3.length c1_3] 43 (0, 0)) (by (with_reducible repeat (first | refine blk_drewN ?_ _ | refine blk_drew ?_ | refine blk_alloc ?_ _)); exact BK809.out) hb)
            have n12_ := Aside0.mk (blk_below (g := gb837) (o := .cells #[.int .i64 t829, .int .i64 t830, .slice Ao53 t831.length co53, .slice Ao54 t834.length co54] 48 (0, 0)) (by (with_reducible repeat (first | refine blk_drewN ?_ _ | refine blk_drew ?_ | refine blk_alloc ?_ _)); exact BK837.out) hb)
            have n13_ := Aside0.mk (blk_below (g := gb846) (o := .cells #[.int .i64 t838, .int .i64 t839, .slice Ao62 t840.length co62, .slice Ao63 t843.length co63] 48 (0, 0)) (by (with_reducible repeat (first | refine blk_drewN ?_ _ | refine blk_drew ?_ | refine blk_alloc ?_ _)); exact BK846.out) hb)
            have n14_ := Aside0.mk (below_step (by repeat (first | (with_reducible first | exact HB.out | apply below_alloc | apply pw_below_drewN | apply below_drew1 | refine below_set ?_ GE808.out | refine below_set ?_ GE809.out | refine below_set ?_ GE837.out | refine below_set ?_ GE846.out) | exact HB.out)) hb)
            clear HO816
            clear HO819
            clear HO824
            clear HO827
            clear HO833
            clear HO836
            clear HO842
            clear HO845
            clear HO852
            clear HO855
            clear BK808
            clear BK809
            clear BK837
            clear BK846
            clear HB
            have HO816 := n0_
            have HO819 := n1_
            have HO824 := n2_
            have HO827 := n3_
            have HO833 := n4_
            have HO836 := n5_
            have HO842 := n6_
            have HO845 := n7_
            have HO852 := n8_
            have HO855 := n9_
            have BK808 := n10_
            have BK809 := n11_
            have BK837 := n12_
            have BK846 := n13_
            have HB := n14_
            clear n0_ n1_ n2_ n3_ n4_ n5_ n6_ n7_ n8_ n9_ n10_ n11_ n12_ n13_ n14_
            (try clear hb)
            (try clear hb2)
            (try clear hk)
            (try clear hi)
            refine hK.out _ _ ⟨(blk_cell BK837.out 0).trans rfl, (blk_cell BK837.out 1).trans rfl, (blk_cell BK837.out 2).trans rfl, (blk_cell BK837.out 3).trans rfl, (blk_cell BK808.out 0).trans rfl, (blk_cell BK808.out 1).trans rfl, (blk_cell BK808.out 2).trans rfl, (blk_cell BK808.out 3).trans rfl⟩ (fun hHeld => ?_)
            clear hK K
            refine norm_ (a' := ?_) ?_ ?_
            rotate_left
            · show Act.put _ (some 38) _ = _
              simp only [Act.put, List.setIfInBounds_toArray, List.set_cons_zero, List.set_cons_succ, i64_w, i32_w]
              rfl
            refine pure_ (i := 4) (N := some 39) (v := ?_) (a' := ?_) #[true, true, true, true, true] rfl rfl (by kernel_rfl) (fun _ _ _ h => h) (Or.inl ⟨by rfl, ?_⟩) ?_ ?_
            rotate_left
            · intro w'
              go_simp
              with_reducible rfl
            rotate_left
            · simp only [Act.put, List.setIfInBounds_toArray, List.set_cons_zero, List.set_cons_succ, i64_w, i32_w]
              rfl
            refine done_ (by kernel_rfl) ?_
            try go_wp2
            have n0_ := Aside0.mk (Kd.R_drew HO816.out)
            have n1_ := Aside0.mk (Kd.R_drew HO819.out)
            have n2_ := Aside0.mk (Kd.R_drew HO824.out)
            have n3_ := Aside0.mk (Kd.R_drew HO827.out)
            have n4_ := Aside0.mk (Kd.R_drew HO833.out)
            have n5_ := Aside0.mk (Kd.R_drew HO836.out)
            have n6_ := Aside0.mk (Kd.R_drew HO842.out)
            have n7_ := Aside0.mk (Kd.R_drew HO845.out)
            have n8_ := Aside0.mk (Kd.R_drew HO852.out)
            have n9_ := Aside0.mk (Kd.R_drew HO855.out)
            have n10_ := Aside0.mk (blk_drew BK808.out)
            have n11_ := Aside0.mk (blk_drew BK809.out)
            have n12_ := Aside0.mk (blk_drew BK837.out)
            have n13_ := Aside0.mk (blk_drew BK846.out)
            have n14_ := Aside0.mk (below_drew1 HB.out)
            clear HO816
            clear HO819
            clear HO824
            clear HO827
            clear HO833
            clear HO836
            clear HO842
            clear HO845
            clear HO852
            clear HO855
            clear BK808
            clear BK809
            clear BK837
            clear BK846
            clear HB
            have HO816 := n0_
            have HO819 := n1_
            have HO824 := n2_
            have HO827 := n3_
            have HO833 := n4_
            have HO836 := n5_
            have HO842 := n6_
            have HO845 := n7_
            have HO852 := n8_
            have HO855 := n9_
            have BK808 := n10_
            have BK809 := n11_
            have BK837 := n12_
            have BK846 := n13_
            have HB := n14_
            clear n0_ n1_ n2_ n3_ n4_ n5_ n6_ n7_ n8_ n9_ n10_ n11_ n12_ n13_ n14_
            refine start_ (n := 5) (S := fun w' => w'.cell? ⟨gb846, 0, none⟩ = some (.int .i64 t838) ∧ w'.cell? ⟨gb846, 1, none⟩ = some (.int .i64 t839) ∧ w'.cell? ⟨gb846, 2, none⟩ = some (.slice Ao62 t840.length co62) ∧ w'.cell? ⟨gb846, 3, none⟩ = some (.slice Ao63 t843.length co63) ∧ w'.cell? ⟨gb809, 0, none⟩ = some (.int .i64 a1_0) ∧ w'.cell? ⟨gb809, 1, none⟩ = some (.int .i64 a1_1) ∧ w'.cell? ⟨gb809, 2, none⟩ = some (.slice A1_2 l1_2.length c1_2) ∧ w'.cell? ⟨gb809, 3, none⟩ = some (.slice A1_3 l1_3.length c1_3)) (ds := []) #[false, false, false, false, false] (by kernel_rfl) rfl rfl ⟨(blk_cell BK846.out 0).trans rfl, (blk_cell BK846.out 1).trans rfl, (blk_cell BK846.out 2).trans rfl, (blk_cell BK846.out 3).trans rfl, (blk_cell BK809.out 0).trans rfl, (blk_cell BK809.out 1).trans rfl, (blk_cell BK809.out 2).trans rfl, (blk_cell BK809.out 3).trans rfl⟩ (fun hHeld => ?_)
            generalize w70.drew = w71 at HO816 HO819 HO824 HO827 HO833 HO836 HO842 HO845 HO852 HO855 BK808 BK809 BK837 BK846 HB hHeld ⊢
            refine take_ (i := 0) (N := some 40) (v := ?_) (a' := ?_) #[true, false, false, false, false] rfl rfl (by kernel_rfl) (fun _ _ _ h => h) (Or.inl ⟨by rfl, ?_⟩) hHeld ?_ ?_
            rotate_left
            · rintro w' ⟨s0, s1, s2, s3, s4, s5, s6, s7⟩
              go_simp
              with_reducible rfl
            rotate_left
            · simp only [Act.put, List.setIfInBounds_toArray, List.set_cons_zero, List.set_cons_succ, i64_w, i32_w]
              rfl
            refine take_ (i := 1) (N := some 41) (v := ?_) (a' := ?_) #[true, true, false, false, false] rfl rfl (by kernel_rfl) (fun _ _ _ h => h) (Or.inl ⟨by rfl, ?_⟩) hHeld ?_ ?_
            rotate_left
            · rintro w' ⟨s0, s1, s2, s3, s4, s5, s6, s7⟩
              go_simp
              with_reducible rfl
            rotate_left
            · simp only [Act.put, List.setIfInBounds_toArray, List.set_cons_zero, List.set_cons_succ, i64_w, i32_w]
              rfl
            refine one_ (i := 2) (N := some 42) #[true, true, true, false, false] rfl rfl (by kernel_rfl) (by decide) (fun K hK => ?_)
            refine goes_ Try.func33 (by kernel_rfl) rfl #[.agg #[.int .i64 a1_0, .int .i64 a1_1, .slice A1_2 l1_2.length c1_2, .slice A1_3 l1_3.length c1_3]] (by rfl) rfl rfl (by (try simp only [List.map_toArray, List.map_cons, List.map_nil]); first | done | rfl | (simp only [List.length_drop, List.length_take]; rfl)) ?_
            with_reducible refine (laws_toTerm.calls k a1_0 a1_1 _ _ l1_2 _ _ l1_3 t857 t858 t859 t862 _ ?side1 ?side2 ?side3 ?side4 A29.out).mono ?_
            (case side1 => repeat (first | exact (Kd.C_below HR1_2.out HB.out) | (with_reducible refine Kd.C_alloc ?_ _) | (with_reducible refine Kd.C_drewN ?_ _) | (with_reducible refine Kd.C_drew ?_)))
            (case side2 => exact HC1_2.out)
            (case side3 => repeat (first | exact (Kd.C_below HR1_3.out HB.out) | (with_reducible refine Kd.C_alloc ?_ _) | (with_reducible refine Kd.C_drewN ?_ _) | (with_reducible refine Kd.C_drew ?_)))
            (case side4 => exact HC1_3.out)
            rintro e w72 ⟨v860, v863, rfl, ho0, ho1, hb⟩
            refine ⟨_, rfl, ?_⟩
            have n0_ := Aside0.mk (Kd.R_elder' (by (with_reducible repeat (first | apply Kd.R_alloc | apply Kd.R_drewN | apply Kd.R_drew)); exact HO816.out) (Kd.R_base ho0) hb)
            have n1_ := Aside0.mk (Kd.R_mono (Kd.R_told (Kd.R_told (Kd.R_old (by (with_reducible repeat (first | apply Kd.R_alloc | apply Kd.R_drewN | apply Kd.R_drew)); exact HO819.out) hb) (Kd.R_base ho0)) (Kd.R_base ho1)) (fun _ h_ => h_.1))
            have n2_ := Aside0.mk (Kd.R_elder' (by (with_reducible repeat (first | apply Kd.R_alloc | apply Kd.R_drewN | apply Kd.R_drew)); exact HO824.out) (Kd.R_base ho0) hb)
            have n3_ := Aside0.mk (Kd.R_mono (Kd.R_told (Kd.R_told (Kd.R_old (by (with_reducible repeat (first | apply Kd.R_alloc | apply Kd.R_drewN | apply Kd.R_drew)); exact HO827.out) hb) (Kd.R_base ho0)) (Kd.R_base ho1)) (fun _ h_ => h_.1))
            have n4_ := Aside0.mk (Kd.R_elder' (by (with_reducible repeat (first | apply Kd.R_alloc | apply Kd.R_drewN | apply Kd.R_drew)); exact HO833.out) (Kd.R_base ho0) hb)
            have n5_ := Aside0.mk (Kd.R_mono (Kd.R_told (Kd.R_told (Kd.R_old (by (with_reducible repeat (first | apply Kd.R_alloc | apply Kd.R_drewN | apply Kd.R_drew)); exact HO836.out) hb) (Kd.R_base ho0)) (Kd.R_base ho1)) (fun _ h_ => h_.1))
            have n6_ := Aside0.mk (Kd.R_elder' (by (with_reducible repeat (first | apply Kd.R_alloc | apply Kd.R_drewN | apply Kd.R_drew)); exact HO842.out) (Kd.R_base ho0) hb)
            have n7_ := Aside0.mk (Kd.R_mono (Kd.R_told (Kd.R_told (Kd.R_old (by (with_reducible repeat (first | apply Kd.R_alloc | apply Kd.R_drewN | apply Kd.R_drew)); exact HO845.out) hb) (Kd.R_base ho0)) (Kd.R_base ho1)) (fun _ h_ => h_.1))
            have n8_ := Aside0.mk (Kd.R_elder' (by (with_reducible repeat (first | apply Kd.R_alloc | apply Kd.R_drewN | apply Kd.R_drew)); exact HO852.out) (Kd.R_base ho0) hb)
            have n9_ := Aside0.mk (Kd.R_mono (Kd.R_told (Kd.R_told (Kd.R_old (by (with_reducible repeat (first | apply Kd.R_alloc | apply Kd.R_drewN | apply Kd.R_drew)); exact HO855.out) hb) (Kd.R_base ho0)) (Kd.R_base ho1)) (fun _ h_ => h_.1))
            have n10_ := Aside0.mk (Kd.R_lower (Kd.R_new' (Kd.R_new' (Kd.R_new' (Kd.R_new' (Kd.R_new' ho0 (Kd.R_lt (by (with_reducible repeat (first | apply Kd.R_alloc | apply Kd.R_drewN | apply Kd.R_drew)); exact HO816.out))) (Kd.R_lt (by (with_reducible repeat (first | apply Kd.R_alloc | apply Kd.R_drewN | apply Kd.R_drew)); exact HO824.out))) (Kd.R_lt (by (with_reducible repeat (first | apply Kd.R_alloc | apply Kd.R_drewN | apply Kd.R_drew)); exact HO833.out))) (Kd.R_lt (by (with_reducible repeat (first | apply Kd.R_alloc | apply Kd.R_drewN | apply Kd.R_drew)); exact HO842.out))) (Kd.R_lt (by (with_reducible repeat (first | apply Kd.R_alloc | apply Kd.R_drewN | apply Kd.R_drew)); exact HO852.out))) (below_size (by repeat (first | (with_reducible first | exact HB.out | apply below_alloc | apply pw_below_drewN | apply below_drew1 | refine below_set ?_ GE808.out | refine below_set ?_ GE809.out | refine below_set ?_ GE837.out | refine below_set ?_ GE846.out) | exact HB.out))))
            have n11_ := Aside0.mk (Kd.R_lower (Kd.R_newB (Kd.R_newB (Kd.R_new' (Kd.R_new' (Kd.R_new' (Kd.R_new' (Kd.R_new' (Kd.R_new' (Kd.R_new' (Kd.R_new' (Kd.R_new' (Kd.R_new' ho1 (Kd.R_lt (by (with_reducible repeat (first | apply Kd.R_alloc | apply Kd.R_drewN | apply Kd.R_drew)); exact HO816.out))) (Kd.R_lt (by (with_reducible repeat (first | apply Kd.R_alloc | apply Kd.R_drewN | apply Kd.R_drew)); exact HO819.out))) (Kd.R_lt (by (with_reducible repeat (first | apply Kd.R_alloc | apply Kd.R_drewN | apply Kd.R_drew)); exact HO824.out))) (Kd.R_lt (by (with_reducible repeat (first | apply Kd.R_alloc | apply Kd.R_drewN | apply Kd.R_drew)); exact HO827.out))) (Kd.R_lt (by (with_reducible repeat (first | apply Kd.R_alloc | apply Kd.R_drewN | apply Kd.R_drew)); exact HO833.out))) (Kd.R_lt (by (with_reducible repeat (first | apply Kd.R_alloc | apply Kd.R_drewN | apply Kd.R_drew)); exact HO836.out))) (Kd.R_lt (by (with_reducible repeat (first | apply Kd.R_alloc | apply Kd.R_drewN | apply Kd.R_drew)); exact HO842.out))) (Kd.R_lt (by (with_reducible repeat (first | apply Kd.R_alloc | apply Kd.R_drewN | apply Kd.R_drew)); exact HO845.out))) (Kd.R_lt (by (with_reducible repeat (first | apply Kd.R_alloc | apply Kd.R_drewN | apply Kd.R_drew)); exact HO852.out))) (Kd.R_lt (by (with_reducible repeat (first | apply Kd.R_alloc | apply Kd.R_drewN | apply Kd.R_drew)); exact HO855.out))) (g := gb837) (o := .cells #[.int .i64 t829, .int .i64 t830, .slice Ao53 t831.length co53, .slice Ao54 t834.length co54] 48 (0, 0)) (by (with_reducible repeat (first | refine blk_drewN ?_ _ | refine blk_drew ?_ | refine blk_alloc ?_ _)); exact BK837.out)) (g := gb846) (o := .cells #[.int .i64 t838, .int .i64 t839, .slice Ao62 t840.length co62, .slice Ao63 t843.length co63] 48 (0, 0)) (by (with_reducible repeat (first | refine blk_drewN ?_ _ | refine blk_drew ?_ | refine blk_alloc ?_ _)); exact BK846.out)) (below_size (by repeat (first | (with_reducible first | exact HB.out | apply below_alloc | apply pw_below_drewN | apply below_drew1 | refine below_set ?_ GE808.out | refine below_set ?_ GE809.out | refine below_set ?_ GE837.out | refine below_set ?_ GE846.out) | exact HB.out))))
            have n12_ := Aside0.mk (blk_below (g := gb808) (o := .cells #[.int .i64 a0_0, .int .i64 a0_1, .slice A0_2 l0_2.length c0_2, .slice A0_3 l0_3.length c0_3] 43 (0, 0)) (by (with_reducible repeat (first | refine blk_drewN ?_ _ | refine blk_drew ?_ | refine blk_alloc ?_ _)); exact BK808.out) hb)
            have n13_ := Aside0.mk (blk_below (g := gb809) (o := .cells #[.int .i64 a1_0, .int .i64 a1_1, .slice A1_2 l1_2.length c1_2, .slice A1_3 l1_3.length c1_3] 43 (0, 0)) (by (with_reducible repeat (first | refine blk_drewN ?_ _ | refine blk_drew ?_ | refine blk_alloc ?_ _)); exact BK809.out) hb)
            have n14_ := Aside0.mk (blk_below (g := gb837) (o := .cells #[.int .i64 t829, .int .i64 t830, .slice Ao53 t831.length co53, .slice Ao54 t834.length co54] 48 (0, 0)) (by (with_reducible repeat (first | refine blk_drewN ?_ _ | refine blk_drew ?_ | refine blk_alloc ?_ _)); exact BK837.out) hb)
            have n15_ := Aside0.mk (blk_below (g := gb846) (o := .cells #[.int .i64 t838, .int .i64 t839, .slice Ao62 t840.length co62, .slice Ao63 t843.length co63] 48 (0, 0)) (by (with_reducible repeat (first | refine blk_drewN ?_ _ | refine blk_drew ?_ | refine blk_alloc ?_ _)); exact BK846.out) hb)
            have n16_ := Aside0.mk (below_step (by repeat (first | (with_reducible first | exact HB.out | apply below_alloc | apply pw_below_drewN | apply below_drew1 | refine below_set ?_ GE808.out | refine below_set ?_ GE809.out | refine below_set ?_ GE837.out | refine below_set ?_ GE846.out) | exact HB.out)) hb)
            clear HO816
            clear HO819
            clear HO824
            clear HO827
            clear HO833
            clear HO836
            clear HO842
            clear HO845
            clear HO852
            clear HO855
            clear BK808
            clear BK809
            clear BK837
            clear BK846
            clear HB
            have HO816 := n0_
            have HO819 := n1_
            have HO824 := n2_
            have HO827 := n3_
            have HO833 := n4_
            have HO836 := n5_
            have HO842 := n6_
            have HO845 := n7_
            have HO852 := n8_
            have HO855 := n9_
            have HO861 := n10_
            have HO864 := n11_
            have BK808 := n12_
            have BK809 := n13_
            have BK837 := n14_
            have BK846 := n15_
            have HB := n16_
            clear n0_ n1_ n2_ n3_ n4_ n5_ n6_ n7_ n8_ n9_ n10_ n11_ n12_ n13_ n14_ n15_ n16_
            (try clear hb)
            (try clear hb2)
            (try clear hk)
            (try clear hi)
            (try clear ho0)
            (try clear ho1)
            obtain ⟨Ao73, co73, eo73⟩ := Kd.R_slice HO861.out
            (first | subst eo73 | (injection eo73 with f1_ f2_ f3_; have f4_ := f1_.symm; have f5_ := f3_.symm; clear f1_ f2_ f3_; subst f4_; subst f5_))
            obtain ⟨Ao74, co74, eo74⟩ := Kd.R_slice HO864.out
            (first | subst eo74 | (injection eo74 with f1_ f2_ f3_; have f4_ := f1_.symm; have f5_ := f3_.symm; clear f1_ f2_ f3_; subst f4_; subst f5_))
            refine hK.out _ _ ⟨(blk_cell BK846.out 0).trans rfl, (blk_cell BK846.out 1).trans rfl, (blk_cell BK846.out 2).trans rfl, (blk_cell BK846.out 3).trans rfl, (blk_cell BK809.out 0).trans rfl, (blk_cell BK809.out 1).trans rfl, (blk_cell BK809.out 2).trans rfl, (blk_cell BK809.out 3).trans rfl⟩ (fun hHeld => ?_)
            clear hK K
            refine norm_ (a' := ?_) ?_ ?_
            rotate_left
            · show Act.put _ (some 42) _ = _
              simp only [Act.put, List.setIfInBounds_toArray, List.set_cons_zero, List.set_cons_succ, i64_w, i32_w]
              rfl
            refine one_ (i := 3) (N := some 43) #[true, true, true, true, false] rfl rfl (by kernel_rfl) (by decide) (fun K hK => ?_)
            refine goes_ Try.func35 (by kernel_rfl) rfl #[.agg #[.int .i64 t838, .int .i64 t839, .slice Ao62 t840.length co62, .slice Ao63 t843.length co63], .agg #[.int .i64 t857, .int .i64 t858, .slice Ao73 t859.length co73, .slice Ao74 t862.length co74]] (by rfl) rfl rfl (by (try simp only [List.map_toArray, List.map_cons, List.map_nil]); first | done | rfl | (simp only [List.length_drop, List.length_take]; rfl)) ?_
            with_reducible refine (laws_eqTerm.calls k t838 t839 _ _ t840 _ _ t843 t857 t858 _ _ t859 _ _ t862 true _ ?side1 ?side2 ?side3 ?side4 ?side5 ?side6 ?side7 ?side8 A30.out).mono ?_
            (case side1 => repeat (first | exact (Kd.R_reads' HO842.out).2.2 | (with_reducible refine Kd.C_alloc ?_ _) | (with_reducible refine Kd.C_drewN ?_ _) | (with_reducible refine Kd.C_drew ?_)))
            (case side2 => exact (Kd.R_reads' HO842.out).2.1)
            (case side3 => repeat (first | exact (Kd.R_reads' HO845.out).2.2 | (with_reducible refine Kd.C_alloc ?_ _) | (with_reducible refine Kd.C_drewN ?_ _) | (with_reducible refine Kd.C_drew ?_)))
            (case side4 => exact (Kd.R_reads' HO845.out).2.1)
            (case side5 => repeat (first | exact (Kd.R_reads' HO861.out).2.2 | (with_reducible refine Kd.C_alloc ?_ _) | (with_reducible refine Kd.C_drewN ?_ _) | (with_reducible refine Kd.C_drew ?_)))
            (case side6 => exact (Kd.R_reads' HO861.out).2.1)
            (case side7 => repeat (first | exact (Kd.R_reads' HO864.out).2.2 | (with_reducible refine Kd.C_alloc ?_ _) | (with_reducible refine Kd.C_drewN ?_ _) | (with_reducible refine Kd.C_drew ?_)))
            (case side8 => exact (Kd.R_reads' HO864.out).2.1)
            rintro e w75 ⟨rfl, hb⟩
            refine ⟨_, rfl, ?_⟩
            have n0_ := Aside0.mk (Kd.R_below (by (with_reducible repeat (first | apply Kd.R_alloc | apply Kd.R_drewN | apply Kd.R_drew)); exact HO816.out) hb)
            have n1_ := Aside0.mk (Kd.R_below (by (with_reducible repeat (first | apply Kd.R_alloc | apply Kd.R_drewN | apply Kd.R_drew)); exact HO819.out) hb)
            have n2_ := Aside0.mk (Kd.R_below (by (with_reducible repeat (first | apply Kd.R_alloc | apply Kd.R_drewN | apply Kd.R_drew)); exact HO824.out) hb)
            have n3_ := Aside0.mk (Kd.R_below (by (with_reducible repeat (first | apply Kd.R_alloc | apply Kd.R_drewN | apply Kd.R_drew)); exact HO827.out) hb)
            have n4_ := Aside0.mk (Kd.R_below (by (with_reducible repeat (first | apply Kd.R_alloc | apply Kd.R_drewN | apply Kd.R_drew)); exact HO833.out) hb)
            have n5_ := Aside0.mk (Kd.R_below (by (with_reducible repeat (first | apply Kd.R_alloc | apply Kd.R_drewN | apply Kd.R_drew)); exact HO836.out) hb)
            have n6_ := Aside0.mk (Kd.R_below (by (with_reducible repeat (first | apply Kd.R_alloc | apply Kd.R_drewN | apply Kd.R_drew)); exact HO842.out) hb)
            have n7_ := Aside0.mk (Kd.R_below (by (with_reducible repeat (first | apply Kd.R_alloc | apply Kd.R_drewN | apply Kd.R_drew)); exact HO845.out) hb)
            have n8_ := Aside0.mk (Kd.R_below (by (with_reducible repeat (first | apply Kd.R_alloc | apply Kd.R_drewN | apply Kd.R_drew)); exact HO852.out) hb)
            have n9_ := Aside0.mk (Kd.R_below (by (with_reducible repeat (first | apply Kd.R_alloc | apply Kd.R_drewN | apply Kd.R_drew)); exact HO855.out) hb)
            have n10_ := Aside0.mk (Kd.R_below (by (with_reducible repeat (first | apply Kd.R_alloc | apply Kd.R_drewN | apply Kd.R_drew)); exact HO861.out) hb)
            have n11_ := Aside0.mk (Kd.R_below (by (with_reducible repeat (first | apply Kd.R_alloc | apply Kd.R_drewN | apply Kd.R_drew)); exact HO864.out) hb)
            have n12_ := Aside0.mk (blk_below (g := gb808) (o := .cells #[.int .i64 a0_0, .int .i64 a0_1, .slice A0_2 l0_2.length c0_2, .slice A0_3 l0_3.length c0_3] 43 (0, 0)) (by (with_reducible repeat (first | refine blk_drewN ?_ _ | refine blk_drew ?_ | refine blk_alloc ?_ _)); exact BK808.out) hb)
            have n13_ := Aside0.mk (blk_below (g := gb809) (o := .cells #[.int .i64 a1_0, .int .i64 a1_1, .slice A1_2 l1_2.length c1_2, .slice A1_3 l1_3.length c1_3] 43 (0, 0)) (by (with_reducible repeat (first | refine blk_drewN ?_ _ | refine blk_drew ?_ | refine blk_alloc ?_ _)); exact BK809.out) hb)
            have n14_ := Aside0.mk (blk_below (g := gb837) (o := .cells #[.int .i64 t829, .int .i64 t830, .slice Ao53 t831.length co53, .slice Ao54 t834.length co54] 48 (0, 0)) (by (with_reducible repeat (first | refine blk_drewN ?_ _ | refine blk_drew ?_ | refine blk_alloc ?_ _)); exact BK837.out) hb)
            have n15_ := Aside0.mk (blk_below (g := gb846) (o := .cells #[.int .i64 t838, .int .i64 t839, .slice Ao62 t840.length co62, .slice Ao63 t843.length co63] 48 (0, 0)) (by (with_reducible repeat (first | refine blk_drewN ?_ _ | refine blk_drew ?_ | refine blk_alloc ?_ _)); exact BK846.out) hb)
            have n16_ := Aside0.mk (below_step (by repeat (first | (with_reducible first | exact HB.out | apply below_alloc | apply pw_below_drewN | apply below_drew1 | refine below_set ?_ GE808.out | refine below_set ?_ GE809.out | refine below_set ?_ GE837.out | refine below_set ?_ GE846.out) | exact HB.out)) hb)
            clear HO816
            clear HO819
            clear HO824
            clear HO827
            clear HO833
            clear HO836
            clear HO842
            clear HO845
            clear HO852
            clear HO855
            clear HO861
            clear HO864
            clear BK808
            clear BK809
            clear BK837
            clear BK846
            clear HB
            have HO816 := n0_
            have HO819 := n1_
            have HO824 := n2_
            have HO827 := n3_
            have HO833 := n4_
            have HO836 := n5_
            have HO842 := n6_
            have HO845 := n7_
            have HO852 := n8_
            have HO855 := n9_
            have HO861 := n10_
            have HO864 := n11_
            have BK808 := n12_
            have BK809 := n13_
            have BK837 := n14_
            have BK846 := n15_
            have HB := n16_
            clear n0_ n1_ n2_ n3_ n4_ n5_ n6_ n7_ n8_ n9_ n10_ n11_ n12_ n13_ n14_ n15_ n16_
            (try clear hb)
            (try clear hb2)
            (try clear hk)
            (try clear hi)
            refine hK.out _ _ ⟨(blk_cell BK846.out 0).trans rfl, (blk_cell BK846.out 1).trans rfl, (blk_cell BK846.out 2).trans rfl, (blk_cell BK846.out 3).trans rfl, (blk_cell BK809.out 0).trans rfl, (blk_cell BK809.out 1).trans rfl, (blk_cell BK809.out 2).trans rfl, (blk_cell BK809.out 3).trans rfl⟩ (fun hHeld => ?_)
            clear hK K
            refine norm_ (a' := ?_) ?_ ?_
            rotate_left
            · show Act.put _ (some 43) _ = _
              simp only [Act.put, List.setIfInBounds_toArray, List.set_cons_zero, List.set_cons_succ, i64_w, i32_w]
              rfl
            refine pure_ (i := 4) (N := some 44) (v := ?_) (a' := ?_) #[true, true, true, true, true] rfl rfl (by kernel_rfl) (fun _ _ _ h => h) (Or.inl ⟨by rfl, ?_⟩) ?_ ?_
            rotate_left
            · intro w'
              go_simp
              with_reducible rfl
            rotate_left
            · simp only [Act.put, List.setIfInBounds_toArray, List.set_cons_zero, List.set_cons_succ, i64_w, i32_w]
              rfl
            refine done_ (by kernel_rfl) ?_
            try go_wp2
            go_ret
            exact ⟨by first | rfl | (simp [errW_none, errW_some] <;> rfl) | (simp [*, errW_none, errW_some] <;> rfl), by repeat (first | (with_reducible first | exact HB.out | apply below_alloc | apply pw_below_drewN | apply below_drew1 | refine below_set ?_ GE808.out | refine below_set ?_ GE809.out | refine below_set ?_ GE837.out | refine below_set ?_ GE846.out) | exact HB.out)⟩
          · replace c31 := Bool.eq_false_iff.mpr c31
            subst c31
            have H1 : (some false) = some r := by rw [if_neg (show ¬ (false = true) by decide)] at H; exact H
            clear H
            have H := H1
            clear H1
            obtain rfl := Option.some.inj H
            exact absurd hr_ (by decide)
        · replace c28 := Bool.eq_false_iff.mpr c28
          subst c28
          have H1 : (some false) = some r := by rw [if_neg (show ¬ (false = true) by decide)] at H; exact H
          clear H
          have H := H1
          clear H1
          obtain rfl := Option.some.inj H
          exact absurd hr_ (by decide)

def laws_FnExactSameTerms.Pure : Prop := ∀ (a0_0 : Int) (a0_1 : Int) (l0_2 : List Int) (l0_3 : List (S43)) (a1_0 : Int) (a1_1 : Int) (l1_2 : List Int) (l1_3 : List (S43)), (Lit.int .i64 a0_0).wf = true → (Lit.int .i64 a0_1).wf = true → ((∀ z ∈ l0_2, (Lit.int .i64 z).wf = true) ∧ l0_2.length ≤ maxLen) → ((∀ z ∈ l0_3, Wf43 z) ∧ l0_3.length ≤ maxLen) → (Lit.int .i64 a1_0).wf = true → (Lit.int .i64 a1_1).wf = true → ((∀ z ∈ l1_2, (Lit.int .i64 z).wf = true) ∧ l1_2.length ≤ maxLen) → ((∀ z ∈ l1_3, Wf43 z) ∧ l1_3.length ≤ maxLen) → ∃ k, laws_FnExactSameTerms.f k a0_0 a0_1 l0_2 l0_3 a1_0 a1_1 l1_2 l1_3 = some true

end Go.Proofs.Ytnokgkhkmnldeaa.P
