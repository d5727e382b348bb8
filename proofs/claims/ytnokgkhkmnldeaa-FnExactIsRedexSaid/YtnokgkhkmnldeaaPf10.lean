-- Printed by this session's own program (wip/tools/mkprint.py) out of the translation. Not trusted: Lean checks it.
import Derived.Test.YtnokgkhkmnldeaaP0
import Derived.Test.YtnokgkhkmnldeaaPf31
import Derived.Test.YtnokgkhkmnldeaaPf33
import Derived.Test.YtnokgkhkmnldeaaPf35
import Derived.Test.YtnokgkhkmnldeaaPf40
import Derived.Test.YtnokgkhkmnldeaaPf41
namespace Go.Proofs.Ytnokgkhkmnldeaa.P
open Go.RowKit Go.Proofs.YtnokgkhkmnldeaaW.PrintWords Go.Proofs.YtnokgkhkmnldeaaW.PrintLast Go.Proofs.YtnokgkhkmnldeaaW.PrintMore
attribute [local go_sem] max2_int min2_int max_two min_two max_three min_three max_four min_four   -- for this text's walks alone
set_option linter.unusedVariables false
set_option linter.unusedSimpArgs false

/-! ### laws_FnExactIsRedex: function 10 -/
def laws_FnExactIsRedex.f (k : Nat) (a0_0 : Int) (a0_1 : Int) (l0_2 : List Int) (l0_3 : List (S43)) : Option (Bool) := (laws_szTerm.f k a0_0 a0_1 l0_2 l0_3 1048576).bind fun t750 => (if t750 < 0 then (some true) else ((laws_toTerm.f k a0_0 a0_1 l0_2 l0_3).bind fun bt751 => ((spec_IsRedex.f k bt751.1 bt751.2.1 bt751.2.2.1 bt751.2.2.2).bind fun t759 => ((laws_toTerm.f k a0_0 a0_1 l0_2 l0_3).bind fun bt760 => ((impl_IsRedex.f k bt760.1 bt760.2.1 bt760.2.2.1 bt760.2.2.2).bind fun t769 => (if (t769 != t759) = true then (some false) else ((laws_toTerm.f k a0_0 a0_1 l0_2 l0_3).bind fun bt770 => ((laws_eqTerm.f k bt760.1 bt760.2.1 bt760.2.2.1 bt760.2.2.2 bt770.1 bt770.2.1 bt770.2.2.1 bt770.2.2.2).bind fun t778 => (if t778 = true then (some true) else (some false))))))))))
set_option maxHeartbeats 8000000 in
set_option maxRecDepth 100000 in
theorem laws_FnExactIsRedex.calls (k : Nat) (a0_0 : Int) (a0_1 : Int) (A0_2 : Option Addr) (c0_2 : Nat) (l0_2 : List Int) (A0_3 : Option Addr) (c0_3 : Nat) (l0_3 : List (S43)) (r : Bool) (w : World) (hr0_2 : Kd.C (Kd.int .i64) w A0_2 l0_2.length l0_2) (hc0_2 : l0_2.length ≤ c0_2) (hr0_3 : Kd.C k43 w A0_3 l0_3.length l0_3) (hc0_3 : l0_3.length ≤ c0_3) (h : laws_FnExactIsRedex.f k a0_0 a0_1 l0_2 l0_3 = some r) (hr_ : r = true) :
    Calls Try.prog 10 #[.agg #[.int .i64 a0_0, .int .i64 a0_1, .slice A0_2 l0_2.length c0_2, .slice A0_3 l0_3.length c0_3]] w fun e w' => e = .returned (.bool r) ∧ Below w.heap.size w w' := by
  have hu43 := Try.underlying43
  have hu48 := Try.underlying48
  have HR0_2 := Aside0.mk hr0_2
  have HC0_2 := Aside0.mk hc0_2
  clear hr0_2 hc0_2
  have HR0_3 := Aside0.mk hr0_3
  have HC0_3 := Aside0.mk hc0_3
  clear hr0_3 hc0_3
  have HB := Aside0.mk (Below.refl w.heap.size w)
  have H : ((laws_szTerm.f k a0_0 a0_1 l0_2 l0_3 1048576).bind fun t750 => (if t750 < 0 then (some true) else ((laws_toTerm.f k a0_0 a0_1 l0_2 l0_3).bind fun bt751 => ((spec_IsRedex.f k bt751.1 bt751.2.1 bt751.2.2.1 bt751.2.2.2).bind fun t759 => ((laws_toTerm.f k a0_0 a0_1 l0_2 l0_3).bind fun bt760 => ((impl_IsRedex.f k bt760.1 bt760.2.1 bt760.2.2.1 bt760.2.2.2).bind fun t769 => (if (t769 != t759) = true then (some false) else ((laws_toTerm.f k a0_0 a0_1 l0_2 l0_3).bind fun bt770 => ((laws_eqTerm.f k bt760.1 bt760.2.1 bt760.2.2.1 bt760.2.2.2 bt770.1 bt770.2.1 bt770.2.2.1 bt770.2.2.2).bind fun t778 => (if t778 = true then (some true) else (some false))))))))))) = some r := h
  clear h
  replace H := Option.bind_eq_some_iff.mp H
  obtain ⟨t750, A20, H⟩ := H
  replace H : (if t750 < 0 then (some true) else ((laws_toTerm.f k a0_0 a0_1 l0_2 l0_3).bind fun bt751 => ((spec_IsRedex.f k bt751.1 bt751.2.1 bt751.2.2.1 bt751.2.2.2).bind fun t759 => ((laws_toTerm.f k a0_0 a0_1 l0_2 l0_3).bind fun bt760 => ((impl_IsRedex.f k bt760.1 bt760.2.1 bt760.2.2.1 bt760.2.2.2).bind fun t769 => (if (t769 != t759) = true then (some false) else ((laws_toTerm.f k a0_0 a0_1 l0_2 l0_3).bind fun bt770 => ((laws_eqTerm.f k bt760.1 bt760.2.1 bt760.2.2.1 bt760.2.2.2 bt770.1 bt770.2.1 bt770.2.2.1 bt770.2.2.2).bind fun t778 => (if t778 = true then (some true) else (some false)))))))))) = some r := H
  have A2 := Aside0.mk A20
  clear A20
  by_cases c3 : t750 < 0
  · rw [if_pos c3] at H
    have c3b0 : decide (t750 < 0) = true := decide_eq_true c3
    clear c3
    obtain rfl := Option.some.inj H
    go_enter Try.func10, Try.ntmps10
    go_wp2_with (first | ((with_reducible refine gate_dst (N := 1) rfl ?_); refine box_event ?hg (N := 1) ?hd (cs := #[.int .i64 a0_0, .int .i64 a0_1, .slice A0_2 l0_2.length c0_2, .slice A0_3 l0_3.length c0_3]) (t := 43) ?hr ?_; (case hd => rfl); (case hg => rfl); (case hr => first | (go_simp; done) | (go_simp; rfl)); intro gb749 hg w4 hbox hb; have n0_ := Aside0.mk (below_step (by repeat (first | (with_reducible first | exact HB.out | apply below_alloc | apply pw_below_drewN | apply below_drew1) | exact HB.out)) hb); have n1_ := Aside0.mk (hbox); have n2_ := Aside0.mk ((by rw [hg]; exact (below_size (by repeat (first | (with_reducible first | exact HB.out | apply below_alloc | apply pw_below_drewN | apply below_drew1) | exact HB.out))) : w.heap.size ≤ gb749)); have n3_ := Aside0.mk ((by rw [hg]; exact (below_size (by repeat (first | (with_reducible first | exact HB.out | apply below_alloc | apply pw_below_drewN | apply below_drew1) | exact HB.out))) : w.heap.size ≤ gb749)); clear HB; have HB := n0_; have BK749 := n1_; have GW749 := n2_; have GE749 := n3_; clear n0_ n1_ n2_ n3_; clear hb hbox hg; have hcz5_0 : w4.cell? ⟨gb749, 0, none⟩ = some (.int .i64 a0_0) := (blk_cell BK749.out 0).trans rfl; have hcz5_1 : w4.cell? ⟨gb749, 1, none⟩ = some (.int .i64 a0_1) := (blk_cell BK749.out 1).trans rfl; have hcz5_2 : w4.cell? ⟨gb749, 2, none⟩ = some (.slice A0_2 l0_2.length c0_2) := (blk_cell BK749.out 2).trans rfl; have hcz5_3 : w4.cell? ⟨gb749, 3, none⟩ = some (.slice A0_3 l0_3.length c0_3) := (blk_cell BK749.out 3).trans rfl; have hfz5_0 := blk_frozen BK749.out 0; have hfz5_1 := blk_frozen BK749.out 1; have hfz5_2 := blk_frozen BK749.out 2; have hfz5_3 := blk_frozen BK749.out 3) | ((with_reducible refine gate_callee (f := 31) rfl ?_); refine goesL_ (some 9) rfl rfl Try.func31 (by kernel_rfl) rfl #[.agg #[.int .i64 a0_0, .int .i64 a0_1, .slice A0_2 l0_2.length c0_2, .slice A0_3 l0_3.length c0_3], .int .i64 1048576] rfl (by (try simp only [List.map_toArray, List.map_cons, List.map_nil]); first | done | rfl | (simp only [List.length_drop, List.length_take]; rfl)) ?_; (with_reducible refine (laws_szTerm.calls k a0_0 a0_1 _ _ l0_2 _ _ l0_3 1048576 t750 _ ?side1 ?side2 ?side3 ?side4 A2.out).mono ?_); (case side1 => repeat (first | exact (Kd.C_below HR0_2.out HB.out) | (with_reducible refine Kd.C_alloc ?_ _) | (with_reducible refine Kd.C_drewN ?_ _) | (with_reducible refine Kd.C_drew ?_))); (case side2 => exact HC0_2.out); (case side3 => repeat (first | exact (Kd.C_below HR0_3.out HB.out) | (with_reducible refine Kd.C_alloc ?_ _) | (with_reducible refine Kd.C_drewN ?_ _) | (with_reducible refine Kd.C_drew ?_))); (case side4 => exact HC0_3.out); rintro e w6 ⟨rfl, hb⟩; refine ⟨_, rfl, ?_⟩; have n0_ := Aside0.mk (blk_below (g := gb749) (o := .cells #[.int .i64 a0_0, .int .i64 a0_1, .slice A0_2 l0_2.length c0_2, .slice A0_3 l0_3.length c0_3] 43 (0, 0)) (by (with_reducible repeat (first | refine blk_drewN ?_ _ | refine blk_drew ?_ | refine blk_alloc ?_ _)); exact BK749.out) hb); have n1_ := Aside0.mk (below_step (by repeat (first | (with_reducible first | exact HB.out | apply below_alloc | apply pw_below_drewN | apply below_drew1 | refine below_set ?_ GE749.out) | exact HB.out)) hb); clear BK749; clear HB; have BK749 := n0_; have HB := n1_; clear n0_ n1_; (try clear hb); (try clear hb2); (try clear hk); (try clear hi)))
    go_ret
    exact ⟨by first | rfl | (simp [errW_none, errW_some] <;> rfl) | (simp [*, errW_none, errW_some] <;> rfl), by repeat (first | (with_reducible first | exact HB.out | apply below_alloc | apply pw_below_drewN | apply below_drew1 | refine below_set ?_ GE749.out) | exact HB.out)⟩
  · rw [if_neg c3] at H
    have c3b0 : decide (t750 < 0) = false := decide_eq_false c3
    clear c3
    replace H := Option.bind_eq_some_iff.mp H
    obtain ⟨⟨t751, t752, t753, t756⟩, A70, H⟩ := H
    replace H : ((spec_IsRedex.f k t751 t752 t753 t756).bind fun t759 => ((laws_toTerm.f k a0_0 a0_1 l0_2 l0_3).bind fun bt760 => ((impl_IsRedex.f k bt760.1 bt760.2.1 bt760.2.2.1 bt760.2.2.2).bind fun t769 => (if (t769 != t759) = true then (some false) else ((laws_toTerm.f k a0_0 a0_1 l0_2 l0_3).bind fun bt770 => ((laws_eqTerm.f k bt760.1 bt760.2.1 bt760.2.2.1 bt760.2.2.2 bt770.1 bt770.2.1 bt770.2.2.1 bt770.2.2.2).bind fun t778 => (if t778 = true then (some true) else (some false)))))))) = some r := H
    have A7 := Aside0.mk A70
    clear A70
    replace H := Option.bind_eq_some_iff.mp H
    obtain ⟨t759, A80, H⟩ := H
    replace H : ((laws_toTerm.f k a0_0 a0_1 l0_2 l0_3).bind fun bt760 => ((impl_IsRedex.f k bt760.1 bt760.2.1 bt760.2.2.1 bt760.2.2.2).bind fun t769 => (if (t769 != t759) = true then (some false) else ((laws_toTerm.f k a0_0 a0_1 l0_2 l0_3).bind fun bt770 => ((laws_eqTerm.f k bt760.1 bt760.2.1 bt760.2.2.1 bt760.2.2.2 bt770.1 bt770.2.1 bt770.2.2.1 bt770.2.2.2).bind fun t778 => (if t778 = true then (some true) else (some false))))))) = some r := H
    have A8 := Aside0.mk A80
    clear A80
    replace H := Option.bind_eq_some_iff.mp H
    obtain ⟨⟨t760, t761, t762, t765⟩, A90, H⟩ := H
    replace H : ((impl_IsRedex.f k t760 t761 t762 t765).bind fun t769 => (if (t769 != t759) = true then (some false) else ((laws_toTerm.f k a0_0 a0_1 l0_2 l0_3).bind fun bt770 => ((laws_eqTerm.f k t760 t761 t762 t765 bt770.1 bt770.2.1 bt770.2.2.1 bt770.2.2.2).bind fun t778 => (if t778 = true then (some true) else (some false)))))) = some r := H
    have A9 := Aside0.mk A90
    clear A90
    replace H := Option.bind_eq_some_iff.mp H
    obtain ⟨t769, A100, H⟩ := H
    replace H : (if (t769 != t759) = true then (some false) else ((laws_toTerm.f k a0_0 a0_1 l0_2 l0_3).bind fun bt770 => ((laws_eqTerm.f k t760 t761 t762 t765 bt770.1 bt770.2.1 bt770.2.2.1 bt770.2.2.2).bind fun t778 => (if t778 = true then (some true) else (some false))))) = some r := H
    have A10 := Aside0.mk A100
    clear A100
    by_cases c11 : (t769 != t759) = true
    · rw [if_pos c11] at H
      have c11b0 : (t769 != t759) = true := c11
      (try (have c11b1 : decide (t769 = t759) = false := by simpa using c11))
      (try (have c11b2 : (t769 == t759) = false := by simpa using c11))
      (try (have c11b3 : ¬ (t769 = t759) := by simpa using c11))
      clear c11
      obtain rfl := Option.some.inj H
      exact absurd hr_ (by decide)
    · rw [if_neg c11] at H
      have c11b0 : (t769 != t759) = false := by simpa using c11
      (try (have c11b1 : decide (t769 = t759) = true := by simpa using c11))
      (try (have c11b2 : (t769 == t759) = true := by simpa using c11))
      clear c11
      replace H := Option.bind_eq_some_iff.mp H
      obtain ⟨⟨t770, t771, t772, t775⟩, A120, H⟩ := H
      replace H : ((laws_eqTerm.f k t760 t761 t762 t765 t770 t771 t772 t775).bind fun t778 => (if t778 = true then (some true) else (some false))) = some r := H
      have A12 := Aside0.mk A120
      clear A120
      replace H := Option.bind_eq_some_iff.mp H
      obtain ⟨t778, A130, H⟩ := H
      replace H : (if t778 = true then (some true) else (some false)) = some r := H
      have A13 := Aside0.mk A130
      clear A130
      by_cases c14 : t778 = true
      · subst c14
        have H1 : (some true) = some r := by rw [if_pos rfl] at H; exact H
        clear H
        have H := H1
        clear H1
        obtain rfl := Option.some.inj H
        go_enter Try.func10, Try.ntmps10
        try go_wp2_with (first | ((with_reducible refine gate_dst (N := 1) rfl ?_); refine box_event ?hg (N := 1) ?hd (cs := #[.int .i64 a0_0, .int .i64 a0_1, .slice A0_2 l0_2.length c0_2, .slice A0_3 l0_3.length c0_3]) (t := 43) ?hr ?_; (case hd => rfl); (case hg => rfl); (case hr => first | (go_simp; done) | (go_simp; rfl)); intro gb749 hg w15 hbox hb; have n0_ := Aside0.mk (below_step (by repeat (first | (with_reducible first | exact HB.out | apply below_alloc | apply pw_below_drewN | apply below_drew1) | exact HB.out)) hb); have n1_ := Aside0.mk (hbox); have n2_ := Aside0.mk ((by rw [hg]; exact (below_size (by repeat (first | (with_reducible first | exact HB.out | apply below_alloc | apply pw_below_drewN | apply below_drew1) | exact HB.out))) : w.heap.size ≤ gb749)); have n3_ := Aside0.mk ((by rw [hg]; exact (below_size (by repeat (first | (with_reducible first | exact HB.out | apply below_alloc | apply pw_below_drewN | apply below_drew1) | exact HB.out))) : w.heap.size ≤ gb749)); clear HB; have HB := n0_; have BK749 := n1_; have GW749 := n2_; have GE749 := n3_; clear n0_ n1_ n2_ n3_; clear hb hbox hg; have hcz16_0 : w15.cell? ⟨gb749, 0, none⟩ = some (.int .i64 a0_0) := (blk_cell BK749.out 0).trans rfl; have hcz16_1 : w15.cell? ⟨gb749, 1, none⟩ = some (.int .i64 a0_1) := (blk_cell BK749.out 1).trans rfl; have hcz16_2 : w15.cell? ⟨gb749, 2, none⟩ = some (.slice A0_2 l0_2.length c0_2) := (blk_cell BK749.out 2).trans rfl; have hcz16_3 : w15.cell? ⟨gb749, 3, none⟩ = some (.slice A0_3 l0_3.length c0_3) := (blk_cell BK749.out 3).trans rfl; have hfz16_0 := blk_frozen BK749.out 0; have hfz16_1 := blk_frozen BK749.out 1; have hfz16_2 := blk_frozen BK749.out 2; have hfz16_3 := blk_frozen BK749.out 3) | ((with_reducible refine gate_callee (f := 31) rfl ?_); refine goesL_ (some 9) rfl rfl Try.func31 (by kernel_rfl) rfl #[.agg #[.int .i64 a0_0, .int .i64 a0_1, .slice A0_2 l0_2.length c0_2, .slice A0_3 l0_3.length c0_3], .int .i64 1048576] rfl (by (try simp only [List.map_toArray, List.map_cons, List.map_nil]); first | done | rfl | (simp only [List.length_drop, List.length_take]; rfl)) ?_; (with_reducible refine (laws_szTerm.calls k a0_0 a0_1 _ _ l0_2 _ _ l0_3 1048576 t750 _ ?side1 ?side2 ?side3 ?side4 A2.out).mono ?_); (case side1 => repeat (first | exact (Kd.C_below HR0_2.out HB.out) | (with_reducible refine Kd.C_alloc ?_ _) | (with_reducible refine Kd.C_drewN ?_ _) | (with_reducible refine Kd.C_drew ?_))); (case side2 => exact HC0_2.out); (case side3 => repeat (first | exact (Kd.C_below HR0_3.out HB.out) | (with_reducible refine Kd.C_alloc ?_ _) | (with_reducible refine Kd.C_drewN ?_ _) | (with_reducible refine Kd.C_drew ?_))); (case side4 => exact HC0_3.out); rintro e w17 ⟨rfl, hb⟩; refine ⟨_, rfl, ?_⟩; have n0_ := Aside0.mk (blk_below (g := gb749) (o := .cells #[.int .i64 a0_0, .int .i64 a0_1, .slice A0_2 l0_2.length c0_2, .slice A0_3 l0_3.length c0_3] 43 (0, 0)) (by (with_reducible repeat (first | refine blk_drewN ?_ _ | refine blk_drew ?_ | refine blk_alloc ?_ _)); exact BK749.out) hb); have n1_ := Aside0.mk (below_step (by repeat (first | (with_reducible first | exact HB.out | apply below_alloc | apply pw_below_drewN | apply below_drew1 | refine below_set ?_ GE749.out) | exact HB.out)) hb); clear BK749; clear HB; have BK749 := n0_; have HB := n1_; clear n0_ n1_; (try clear hb); (try clear hb2); (try clear hk); (try clear hi); have hcz18_0 : w17.cell? ⟨gb749, 0, none⟩ = some (.int .i64 a0_0) := (blk_cell BK749.out 0).trans rfl; have hcz18_1 : w17.cell? ⟨gb749, 1, none⟩ = some (.int .i64 a0_1) := (blk_cell BK749.out 1).trans rfl; have hcz18_2 : w17.cell? ⟨gb749, 2, none⟩ = some (.slice A0_2 l0_2.length c0_2) := (blk_cell BK749.out 2).trans rfl; have hcz18_3 : w17.cell? ⟨gb749, 3, none⟩ = some (.slice A0_3 l0_3.length c0_3) := (blk_cell BK749.out 3).trans rfl; have hfz18_0 := blk_frozen BK749.out 0; have hfz18_1 := blk_frozen BK749.out 1; have hfz18_2 := blk_frozen BK749.out 2; have hfz18_3 := blk_frozen BK749.out 3) | ((with_reducible refine gate_callee (f := 33) rfl ?_); refine goesL_ (some 13) rfl rfl Try.func33 (by kernel_rfl) rfl #[.agg #[.int .i64 a0_0, .int .i64 a0_1, .slice A0_2 l0_2.length c0_2, .slice A0_3 l0_3.length c0_3]] rfl (by (try simp only [List.map_toArray, List.map_cons, List.map_nil]); first | done | rfl | (simp only [List.length_drop, List.length_take]; rfl)) ?_; (with_reducible refine (laws_toTerm.calls k a0_0 a0_1 _ _ l0_2 _ _ l0_3 t751 t752 t753 t756 _ ?side1 ?side2 ?side3 ?side4 A7.out).mono ?_); (case side1 => repeat (first | exact (Kd.C_below HR0_2.out HB.out) | (with_reducible refine Kd.C_alloc ?_ _) | (with_reducible refine Kd.C_drewN ?_ _) | (with_reducible refine Kd.C_drew ?_))); (case side2 => exact HC0_2.out); (case side3 => repeat (first | exact (Kd.C_below HR0_3.out HB.out) | (with_reducible refine Kd.C_alloc ?_ _) | (with_reducible refine Kd.C_drewN ?_ _) | (with_reducible refine Kd.C_drew ?_))); (case side4 => exact HC0_3.out); rintro e w19 ⟨v754, v757, rfl, ho0, ho1, hb⟩; refine ⟨_, rfl, ?_⟩; have n0_ := Aside0.mk (Kd.R_lower ho0 (below_size (by repeat (first | (with_reducible first | exact HB.out | apply below_alloc | apply pw_below_drewN | apply below_drew1 | refine below_set ?_ GE749.out) | exact HB.out)))); have n1_ := Aside0.mk (Kd.R_lower ho1 (below_size (by repeat (first | (with_reducible first | exact HB.out | apply below_alloc | apply pw_below_drewN | apply below_drew1 | refine below_set ?_ GE749.out) | exact HB.out)))); have n2_ := Aside0.mk (blk_below (g := gb749) (o := .cells #[.int .i64 a0_0, .int .i64 a0_1, .slice A0_2 l0_2.length c0_2, .slice A0_3 l0_3.length c0_3] 43 (0, 0)) (by (with_reducible repeat (first | refine blk_drewN ?_ _ | refine blk_drew ?_ | refine blk_alloc ?_ _)); exact BK749.out) hb); have n3_ := Aside0.mk (below_step (by repeat (first | (with_reducible first | exact HB.out | apply below_alloc | apply pw_below_drewN | apply below_drew1 | refine below_set ?_ GE749.out) | exact HB.out)) hb); clear BK749; clear HB; have HO755 := n0_; have HO758 := n1_; have BK749 := n2_; have HB := n3_; clear n0_ n1_ n2_ n3_; (try clear hb); (try clear hb2); (try clear hk); (try clear hi); (try clear ho0); (try clear ho1); obtain ⟨Ao20, co20, eo20⟩ := Kd.R_slice HO755.out; subst eo20; obtain ⟨Ao21, co21, eo21⟩ := Kd.R_slice HO758.out; subst eo21) | ((with_reducible refine gate_callee (f := 40) rfl ?_); refine goesL_ (some 14) rfl rfl Try.func40 (by kernel_rfl) rfl #[.agg #[.int .i64 t751, .int .i64 t752, .slice Ao20 t753.length co20, .slice Ao21 t756.length co21]] rfl (by (try simp only [List.map_toArray, List.map_cons, List.map_nil]); first | done | rfl | (simp only [List.length_drop, List.length_take]; rfl)) ?_; (with_reducible refine (spec_IsRedex.calls k t751 t752 _ _ t753 _ _ t756 t759 _ ?side1 ?side2 ?side3 ?side4 A8.out).mono ?_); (case side1 => repeat (first | exact (Kd.R_reads' HO755.out).2.2 | (with_reducible refine Kd.C_alloc ?_ _) | (with_reducible refine Kd.C_drewN ?_ _) | (with_reducible refine Kd.C_drew ?_))); (case side2 => exact (Kd.R_reads' HO755.out).2.1); (case side3 => repeat (first | exact (Kd.R_reads' HO758.out).2.2 | (with_reducible refine Kd.C_alloc ?_ _) | (with_reducible refine Kd.C_drewN ?_ _) | (with_reducible refine Kd.C_drew ?_))); (case side4 => exact (Kd.R_reads' HO758.out).2.1); rintro e w22 ⟨rfl, hb⟩; refine ⟨_, rfl, ?_⟩; have n0_ := Aside0.mk (Kd.R_below (by (with_reducible repeat (first | apply Kd.R_alloc | apply Kd.R_drewN | apply Kd.R_drew)); exact HO755.out) hb); have n1_ := Aside0.mk (Kd.R_below (by (with_reducible repeat (first | apply Kd.R_alloc | apply Kd.R_drewN | apply Kd.R_drew)); exact HO758.out) hb); have n2_ := Aside0.mk (blk_below (g := gb749) (o := .cells #[.int .i64 a0_0, .int .i64 a0_1, .slice A0_2 l0_2.length c0_2, .slice A0_3 l0_3.length c0_3] 43 (0, 0)) (by (with_reducible repeat (first | refine blk_drewN ?_ _ | refine blk_drew ?_ | refine blk_alloc ?_ _)); exact BK749.out) hb); have n3_ := Aside0.mk (below_step (by repeat (first | (with_reducible first | exact HB.out | apply below_alloc | apply pw_below_drewN | apply below_drew1 | refine below_set ?_ GE749.out) | exact HB.out)) hb); clear HO755; clear HO758; clear BK749; clear HB; have HO755 := n0_; have HO758 := n1_; have BK749 := n2_; have HB := n3_; clear n0_ n1_ n2_ n3_; (try clear hb); (try clear hb2); (try clear hk); (try clear hi); have hcz23_0 : w22.cell? ⟨gb749, 0, none⟩ = some (.int .i64 a0_0) := (blk_cell BK749.out 0).trans rfl; have hcz23_1 : w22.cell? ⟨gb749, 1, none⟩ = some (.int .i64 a0_1) := (blk_cell BK749.out 1).trans rfl; have hcz23_2 : w22.cell? ⟨gb749, 2, none⟩ = some (.slice A0_2 l0_2.length c0_2) := (blk_cell BK749.out 2).trans rfl; have hcz23_3 : w22.cell? ⟨gb749, 3, none⟩ = some (.slice A0_3 l0_3.length c0_3) := (blk_cell BK749.out 3).trans rfl; have hfz23_0 := blk_frozen BK749.out 0; have hfz23_1 := blk_frozen BK749.out 1; have hfz23_2 := blk_frozen BK749.out 2; have hfz23_3 := blk_frozen BK749.out 3) | ((with_reducible refine gate_callee (f := 33) rfl ?_); refine goesL_ (some 16) rfl rfl Try.func33 (by kernel_rfl) rfl #[.agg #[.int .i64 a0_0, .int .i64 a0_1, .slice A0_2 l0_2.length c0_2, .slice A0_3 l0_3.length c0_3]] rfl (by (try simp only [List.map_toArray, List.map_cons, List.map_nil]); first | done | rfl | (simp only [List.length_drop, List.length_take]; rfl)) ?_; (with_reducible refine (laws_toTerm.calls k a0_0 a0_1 _ _ l0_2 _ _ l0_3 t760 t761 t762 t765 _ ?side1 ?side2 ?side3 ?side4 A9.out).mono ?_); (case side1 => repeat (first | exact (Kd.C_below HR0_2.out HB.out) | (with_reducible refine Kd.C_alloc ?_ _) | (with_reducible refine Kd.C_drewN ?_ _) | (with_reducible refine Kd.C_drew ?_))); (case side2 => exact HC0_2.out); (case side3 => repeat (first | exact (Kd.C_below HR0_3.out HB.out) | (with_reducible refine Kd.C_alloc ?_ _) | (with_reducible refine Kd.C_drewN ?_ _) | (with_reducible refine Kd.C_drew ?_))); (case side4 => exact HC0_3.out); rintro e w24 ⟨v763, v766, rfl, ho0, ho1, hb⟩; refine ⟨_, rfl, ?_⟩; have n0_ := Aside0.mk (Kd.R_elder' (by (with_reducible repeat (first | apply Kd.R_alloc | apply Kd.R_drewN | apply Kd.R_drew)); exact HO755.out) (Kd.R_base ho0) hb); have n1_ := Aside0.mk (Kd.R_mono (Kd.R_told (Kd.R_told (Kd.R_old (by (with_reducible repeat (first | apply Kd.R_alloc | apply Kd.R_drewN | apply Kd.R_drew)); exact HO758.out) hb) (Kd.R_base ho0)) (Kd.R_base ho1)) (fun _ h_ => h_.1)); have n2_ := Aside0.mk (Kd.R_lower (Kd.R_new' ho0 (Kd.R_lt (by (with_reducible repeat (first | apply Kd.R_alloc | apply Kd.R_drewN | apply Kd.R_drew)); exact HO755.out))) (below_size (by repeat (first | (with_reducible first | exact HB.out | apply below_alloc | apply pw_below_drewN | apply below_drew1 | refine below_set ?_ GE749.out) | exact HB.out)))); have n3_ := Aside0.mk (Kd.R_lower (Kd.R_new' (Kd.R_new' ho1 (Kd.R_lt (by (with_reducible repeat (first | apply Kd.R_alloc | apply Kd.R_drewN | apply Kd.R_drew)); exact HO755.out))) (Kd.R_lt (by (with_reducible repeat (first | apply Kd.R_alloc | apply Kd.R_drewN | apply Kd.R_drew)); exact HO758.out))) (below_size (by repeat (first | (with_reducible first | exact HB.out | apply below_alloc | apply pw_below_drewN | apply below_drew1 | refine below_set ?_ GE749.out) | exact HB.out)))); have n4_ := Aside0.mk (blk_below (g := gb749) (o := .cells #[.int .i64 a0_0, .int .i64 a0_1, .slice A0_2 l0_2.length c0_2, .slice A0_3 l0_3.length c0_3] 43 (0, 0)) (by (with_reducible repeat (first | refine blk_drewN ?_ _ | refine blk_drew ?_ | refine blk_alloc ?_ _)); exact BK749.out) hb); have n5_ := Aside0.mk (below_step (by repeat (first | (with_reducible first | exact HB.out | apply below_alloc | apply pw_below_drewN | apply below_drew1 | refine below_set ?_ GE749.out) | exact HB.out)) hb); clear HO755; clear HO758; clear BK749; clear HB; have HO755 := n0_; have HO758 := n1_; have HO764 := n2_; have HO767 := n3_; have BK749 := n4_; have HB := n5_; clear n0_ n1_ n2_ n3_ n4_ n5_; (try clear hb); (try clear hb2); (try clear hk); (try clear hi); (try clear ho0); (try clear ho1)) | ((with_reducible refine gate_dst (N := 5) rfl ?_); refine box_event ?hg (N := 5) ?hd (cs := #[.int .i64 0, .int .i64 0, .slice none 0 0, .slice none 0 0]) (t := 48) ?hr ?_; (case hd => rfl); (case hg => rfl); (case hr => first | (go_simp; done) | (go_simp; rfl)); intro gb768 hg w25 hbox hb; have n0_ := Aside0.mk (Kd.R_below (by (with_reducible repeat (first | apply Kd.R_alloc | apply Kd.R_drewN | apply Kd.R_drew)); exact HO755.out) hb); have n1_ := Aside0.mk (Kd.R_below (Kd.R_elderB (by (with_reducible repeat (first | apply Kd.R_alloc | apply Kd.R_drewN | apply Kd.R_drew)); exact HO758.out) gb768 (Nat.le_of_eq hg.symm)) hb); have n2_ := Aside0.mk (Kd.R_below (by (with_reducible repeat (first | apply Kd.R_alloc | apply Kd.R_drewN | apply Kd.R_drew)); exact HO764.out) hb); have n3_ := Aside0.mk (Kd.R_below (Kd.R_elderB (by (with_reducible repeat (first | apply Kd.R_alloc | apply Kd.R_drewN | apply Kd.R_drew)); exact HO767.out) gb768 (Nat.le_of_eq hg.symm)) hb); have n4_ := Aside0.mk (blk_below (g := gb749) (o := .cells #[.int .i64 a0_0, .int .i64 a0_1, .slice A0_2 l0_2.length c0_2, .slice A0_3 l0_3.length c0_3] 43 (0, 0)) (by (with_reducible repeat (first | refine blk_drewN ?_ _ | refine blk_drew ?_ | refine blk_alloc ?_ _)); exact BK749.out) hb); have n5_ := Aside0.mk (below_step (by repeat (first | (with_reducible first | exact HB.out | apply below_alloc | apply pw_below_drewN | apply below_drew1 | refine below_set ?_ GE749.out) | exact HB.out)) hb); have n6_ := Aside0.mk (hbox); have n7_ := Aside0.mk ((by rw [hg]; exact (below_size (by repeat (first | (with_reducible first | exact HB.out | apply below_alloc | apply pw_below_drewN | apply below_drew1 | refine below_set ?_ GE749.out) | exact HB.out))) : w.heap.size ≤ gb768)); have n8_ := Aside0.mk ((by rw [hg]; exact (below_size (by repeat (first | (with_reducible first | exact HB.out | apply below_alloc | apply pw_below_drewN | apply below_drew1 | refine below_set ?_ GE749.out) | exact HB.out))) : w.heap.size ≤ gb768)); have n9_ := Aside0.mk ((by rw [hg]; exact Nat.ne_of_lt (blk_lt (g := gb749) (o := .cells #[.int .i64 a0_0, .int .i64 a0_1, .slice A0_2 l0_2.length c0_2, .slice A0_3 l0_3.length c0_3] 43 (0, 0)) (by (with_reducible repeat (first | refine blk_drewN ?_ _ | refine blk_drew ?_ | refine blk_alloc ?_ _)); exact BK749.out)) : gb749 ≠ gb768)); have n10_ := Aside0.mk ((by rw [hg]; exact Nat.ne_of_gt (blk_lt (g := gb749) (o := .cells #[.int .i64 a0_0, .int .i64 a0_1, .slice A0_2 l0_2.length c0_2, .slice A0_3 l0_3.length c0_3] 43 (0, 0)) (by (with_reducible repeat (first | refine blk_drewN ?_ _ | refine blk_drew ?_ | refine blk_alloc ?_ _)); exact BK749.out)) : gb768 ≠ gb749)); clear HO755; clear HO758; clear HO764; clear HO767; clear BK749; clear HB; have HO755 := n0_; have HO758 := n1_; have HO764 := n2_; have HO767 := n3_; have BK749 := n4_; have HB := n5_; have BK768 := n6_; have GW768 := n7_; have GE768 := n8_; have NB749_768 := n9_; have NB768_749 := n10_; clear n0_ n1_ n2_ n3_ n4_ n5_ n6_ n7_ n8_ n9_ n10_; clear hb hbox hg; have hnb26 := NB768_749.out; have hnc26 := NB749_768.out; have hcz27_0 : w25.cell? ⟨gb768, 0, none⟩ = some (.int .i64 0) := (blk_cell BK768.out 0).trans rfl; have hcz27_1 : w25.cell? ⟨gb768, 1, none⟩ = some (.int .i64 0) := (blk_cell BK768.out 1).trans rfl; have hcz27_2 : w25.cell? ⟨gb768, 2, none⟩ = some (.slice none 0 0) := (blk_cell BK768.out 2).trans rfl; have hcz27_3 : w25.cell? ⟨gb768, 3, none⟩ = some (.slice none 0 0) := (blk_cell BK768.out 3).trans rfl; have hfz27_0 := blk_frozen BK768.out 0; have hfz27_1 := blk_frozen BK768.out 1; have hfz27_2 := blk_frozen BK768.out 2; have hfz27_3 := blk_frozen BK768.out 3; obtain ⟨Ao28, co28, eo28⟩ := Kd.R_slice HO764.out; subst eo28; obtain ⟨Ao29, co29, eo29⟩ := Kd.R_slice HO767.out; subst eo29) | ((with_reducible refine gate_callee (f := 41) rfl ?_); refine goesL_ (some 18) rfl rfl Try.func41 (by kernel_rfl) rfl #[.agg #[.int .i64 t760, .int .i64 t761, .slice Ao28 t762.length co28, .slice Ao29 t765.length co29]] rfl (by (try simp only [List.map_toArray, List.map_cons, List.map_nil]); first | done | rfl | (simp only [List.length_drop, List.length_take]; rfl)) ?_; (with_reducible refine (impl_IsRedex.calls k t760 t761 _ _ t762 _ _ t765 t769 _ ?side1 ?side2 ?side3 ?side4 A10.out).mono ?_); (case side1 => refine (Kd.R_reads' (e := 3) (base := w.heap.size) (ok := fun k_ => (True ∧ some k_ ≠ (.slice Ao20 t753.length co20 : Value).ownBlock)) (n := t762.length) (c := co28) ?_).2.2; exact (by (with_reducible repeat (first | apply Kd.R_alloc | apply Kd.R_drewN | apply Kd.R_drew)); exact (Kd.R_mono (Kd.R_far (p := ⟨gb768, 3, none⟩) (Kd.R_far (p := ⟨gb768, 2, none⟩) (Kd.R_far (p := ⟨gb768, 1, none⟩) (Kd.R_far (p := ⟨gb768, 0, none⟩) (Kd.R_types HO764.out BK768.out (by decide)) (fun _ hk => hk.2) (.int .i64 t760)) (fun _ hk => hk.2) (.int .i64 t761)) (fun _ hk => hk.2) (.slice Ao28 t762.length co28)) (fun _ hk => hk.2) (.slice Ao29 t765.length co29)) (fun _ h_ => h_.1)))); (case side2 => exact (Kd.R_reads' HO764.out).2.1); (case side3 => refine (Kd.R_reads' (e := 48) (base := w.heap.size) (ok := fun k_ => (((some k_ ≠ (.slice Ao28 t762.length co28 : Value).ownBlock ∧ some k_ ≠ (.slice Ao20 t753.length co20 : Value).ownBlock) ∧ some k_ ≠ (.slice Ao21 t756.length co21 : Value).ownBlock) ∧ k_ ≠ gb768)) (n := t765.length) (c := co29) ?_).2.2; exact (by (with_reducible repeat (first | apply Kd.R_alloc | apply Kd.R_drewN | apply Kd.R_drew)); exact (Kd.R_mono (Kd.R_far (p := ⟨gb768, 3, none⟩) (Kd.R_far (p := ⟨gb768, 2, none⟩) (Kd.R_far (p := ⟨gb768, 1, none⟩) (Kd.R_far (p := ⟨gb768, 0, none⟩) (Kd.R_mono HO767.out (fun k_ hk => (⟨hk, hk.2⟩ : _ ∧ k_ ≠ gb768))) (fun _ hk => hk.2) (.int .i64 t760)) (fun _ hk => hk.2) (.int .i64 t761)) (fun _ hk => hk.2) (.slice Ao28 t762.length co28)) (fun _ hk => hk.2) (.slice Ao29 t765.length co29)) (fun _ h_ => h_.1)))); (case side4 => exact (Kd.R_reads' HO767.out).2.1); rintro e w30 ⟨rfl, hb⟩; refine ⟨_, rfl, ?_⟩; have n0_ := Aside0.mk (Kd.R_below (by (with_reducible repeat (first | apply Kd.R_alloc | apply Kd.R_drewN | apply Kd.R_drew)); exact (Kd.R_mono (Kd.R_far (p := ⟨gb768, 3, none⟩) (Kd.R_far (p := ⟨gb768, 2, none⟩) (Kd.R_far (p := ⟨gb768, 1, none⟩) (Kd.R_far (p := ⟨gb768, 0, none⟩) (Kd.R_types HO755.out BK768.out (by decide)) (fun _ hk => hk.2) (.int .i64 t760)) (fun _ hk => hk.2) (.int .i64 t761)) (fun _ hk => hk.2) (.slice Ao28 t762.length co28)) (fun _ hk => hk.2) (.slice Ao29 t765.length co29)) (fun _ h_ => h_.1))) hb); have n1_ := Aside0.mk (Kd.R_below (by (with_reducible repeat (first | apply Kd.R_alloc | apply Kd.R_drewN | apply Kd.R_drew)); exact (Kd.R_mono (Kd.R_far (p := ⟨gb768, 3, none⟩) (Kd.R_far (p := ⟨gb768, 2, none⟩) (Kd.R_far (p := ⟨gb768, 1, none⟩) (Kd.R_far (p := ⟨gb768, 0, none⟩) (Kd.R_mono HO758.out (fun k_ hk => (⟨hk, hk.2⟩ : _ ∧ k_ ≠ gb768))) (fun _ hk => hk.2) (.int .i64 t760)) (fun _ hk => hk.2) (.int .i64 t761)) (fun _ hk => hk.2) (.slice Ao28 t762.length co28)) (fun _ hk => hk.2) (.slice Ao29 t765.length co29)) (fun _ h_ => h_.1))) hb); have n2_ := Aside0.mk (Kd.R_below (by (with_reducible repeat (first | apply Kd.R_alloc | apply Kd.R_drewN | apply Kd.R_drew)); exact (Kd.R_mono (Kd.R_far (p := ⟨gb768, 3, none⟩) (Kd.R_far (p := ⟨gb768, 2, none⟩) (Kd.R_far (p := ⟨gb768, 1, none⟩) (Kd.R_far (p := ⟨gb768, 0, none⟩) (Kd.R_types HO764.out BK768.out (by decide)) (fun _ hk => hk.2) (.int .i64 t760)) (fun _ hk => hk.2) (.int .i64 t761)) (fun _ hk => hk.2) (.slice Ao28 t762.length co28)) (fun _ hk => hk.2) (.slice Ao29 t765.length co29)) (fun _ h_ => h_.1))) hb); have n3_ := Aside0.mk (Kd.R_below (by (with_reducible repeat (first | apply Kd.R_alloc | apply Kd.R_drewN | apply Kd.R_drew)); exact (Kd.R_mono (Kd.R_far (p := ⟨gb768, 3, none⟩) (Kd.R_far (p := ⟨gb768, 2, none⟩) (Kd.R_far (p := ⟨gb768, 1, none⟩) (Kd.R_far (p := ⟨gb768, 0, none⟩) (Kd.R_mono HO767.out (fun k_ hk => (⟨hk, hk.2⟩ : _ ∧ k_ ≠ gb768))) (fun _ hk => hk.2) (.int .i64 t760)) (fun _ hk => hk.2) (.int .i64 t761)) (fun _ hk => hk.2) (.slice Ao28 t762.length co28)) (fun _ hk => hk.2) (.slice Ao29 t765.length co29)) (fun _ h_ => h_.1))) hb); have n4_ := Aside0.mk (blk_below (g := gb749) (o := .cells #[.int .i64 a0_0, .int .i64 a0_1, .slice A0_2 l0_2.length c0_2, .slice A0_3 l0_3.length c0_3] 43 (0, 0)) (by (with_reducible repeat (first | refine blk_drewN ?_ _ | refine blk_drew ?_ | refine blk_alloc ?_ _)); refine blk_far ?_ NB749_768.out _; (with_reducible repeat (first | refine blk_drewN ?_ _ | refine blk_drew ?_ | refine blk_alloc ?_ _)); refine blk_far ?_ NB749_768.out _; (with_reducible repeat (first | refine blk_drewN ?_ _ | refine blk_drew ?_ | refine blk_alloc ?_ _)); refine blk_far ?_ NB749_768.out _; (with_reducible repeat (first | refine blk_drewN ?_ _ | refine blk_drew ?_ | refine blk_alloc ?_ _)); refine blk_far ?_ NB749_768.out _; (with_reducible repeat (first | refine blk_drewN ?_ _ | refine blk_drew ?_ | refine blk_alloc ?_ _)); exact BK749.out) hb); have n5_ := Aside0.mk (blk_below (g := gb768) (o := .cells #[.int .i64 t760, .int .i64 t761, .slice Ao28 t762.length co28, .slice Ao29 t765.length co29] 48 (0, 0)) (by (with_reducible repeat (first | refine blk_drewN ?_ _ | refine blk_drew ?_ | refine blk_alloc ?_ _)); refine blk_put (cs := #[.int .i64 t760, .int .i64 t761, .slice Ao28 t762.length co28, .slice none 0 0]) ?_ 3 _ rfl; (with_reducible repeat (first | refine blk_drewN ?_ _ | refine blk_drew ?_ | refine blk_alloc ?_ _)); refine blk_put (cs := #[.int .i64 t760, .int .i64 t761, .slice none 0 0, .slice none 0 0]) ?_ 2 _ rfl; (with_reducible repeat (first | refine blk_drewN ?_ _ | refine blk_drew ?_ | refine blk_alloc ?_ _)); refine blk_put (cs := #[.int .i64 t760, .int .i64 0, .slice none 0 0, .slice none 0 0]) ?_ 1 _ rfl; (with_reducible repeat (first | refine blk_drewN ?_ _ | refine blk_drew ?_ | refine blk_alloc ?_ _)); refine blk_put (cs := #[.int .i64 0, .int .i64 0, .slice none 0 0, .slice none 0 0]) ?_ 0 _ rfl; (with_reducible repeat (first | refine blk_drewN ?_ _ | refine blk_drew ?_ | refine blk_alloc ?_ _)); exact BK768.out) hb); have n6_ := Aside0.mk (below_step (by repeat (first | (with_reducible first | exact HB.out | apply below_alloc | apply pw_below_drewN | apply below_drew1 | refine below_set ?_ GE749.out | refine below_set ?_ GE768.out) | exact HB.out)) hb); clear HO755; clear HO758; clear HO764; clear HO767; clear BK749; clear BK768; clear HB; have HO755 := n0_; have HO758 := n1_; have HO764 := n2_; have HO767 := n3_; have BK749 := n4_; have BK768 := n5_; have HB := n6_; clear n0_ n1_ n2_ n3_ n4_ n5_ n6_; (try clear hb); (try clear hb2); (try clear hk); (try clear hi)))
        have n0_ := Aside0.mk (Kd.R_drew HO755.out)
        have n1_ := Aside0.mk (Kd.R_drew HO758.out)
        have n2_ := Aside0.mk (Kd.R_drew HO764.out)
        have n3_ := Aside0.mk (Kd.R_drew HO767.out)
        have n4_ := Aside0.mk (blk_drew BK749.out)
        have n5_ := Aside0.mk (blk_drew BK768.out)
        have n6_ := Aside0.mk (below_drew1 HB.out)
        clear HO755
        clear HO758
        clear HO764
        clear HO767
        clear BK749
        clear BK768
        clear HB
        have HO755 := n0_
        have HO758 := n1_
        have HO764 := n2_
        have HO767 := n3_
        have BK749 := n4_
        have BK768 := n5_
        have HB := n6_
        clear n0_ n1_ n2_ n3_ n4_ n5_ n6_
        refine start_ (n := 5) (S := fun w' => w'.cell? ⟨gb768, 0, none⟩ = some (.int .i64 t760) ∧ w'.cell? ⟨gb768, 1, none⟩ = some (.int .i64 t761) ∧ w'.cell? ⟨gb768, 2, none⟩ = some (.slice Ao28 t762.length co28) ∧ w'.cell? ⟨gb768, 3, none⟩ = some (.slice Ao29 t765.length co29) ∧ w'.cell? ⟨gb749, 0, none⟩ = some (.int .i64 a0_0) ∧ w'.cell? ⟨gb749, 1, none⟩ = some (.int .i64 a0_1) ∧ w'.cell? ⟨gb749, 2, none⟩ = some (.slice A0_2 l0_2.length c0_2) ∧ w'.cell? ⟨gb749, 3, none⟩ = some (.slice A0_3 l0_3.length c0_3)) (ds := []) #[false, false, false, false, false] (by kernel_rfl) rfl rfl ⟨(blk_cell BK768.out 0).trans rfl, (blk_cell BK768.out 1).trans rfl, (blk_cell BK768.out 2).trans rfl, (blk_cell BK768.out 3).trans rfl, (blk_cell BK749.out 0).trans rfl, (blk_cell BK749.out 1).trans rfl, (blk_cell BK749.out 2).trans rfl, (blk_cell BK749.out 3).trans rfl⟩ (fun hHeld => ?_)
        generalize w30.drew = w31 at HO755 HO758 HO764 HO767 BK749 BK768 HB hHeld ⊢
        refine take_ (i := 0) (N := some 22) (v := ?_) (a' := ?_) #[true, false, false, false, false] rfl rfl (by kernel_rfl) (fun _ _ _ h => h) (Or.inl ⟨by rfl, ?_⟩) hHeld ?_ ?_
        rotate_left
        · rintro w' ⟨s0, s1, s2, s3, s4, s5, s6, s7⟩
          go_simp
          with_reducible rfl
        rotate_left
        · simp only [Act.put, List.setIfInBounds_toArray, List.set_cons_zero, List.set_cons_succ, i64_w, i32_w]
          rfl
        refine take_ (i := 1) (N := some 23) (v := ?_) (a' := ?_) #[true, true, false, false, false] rfl rfl (by kernel_rfl) (fun _ _ _ h => h) (Or.inl ⟨by rfl, ?_⟩) hHeld ?_ ?_
        rotate_left
        · rintro w' ⟨s0, s1, s2, s3, s4, s5, s6, s7⟩
          go_simp
          with_reducible rfl
        rotate_left
        · simp only [Act.put, List.setIfInBounds_toArray, List.set_cons_zero, List.set_cons_succ, i64_w, i32_w]
          rfl
        refine one_ (i := 2) (N := some 24) #[true, true, true, false, false] rfl rfl (by kernel_rfl) (by decide) (fun K hK => ?_)
        refine goes_ Try.func33 (by kernel_rfl) rfl #[.agg #[.int .i64 a0_0, .int .i64 a0_1, .slice A0_2 l0_2.length c0_2, .slice A0_3 l0_3.length c0_3]] (by rfl) rfl rfl (by (try simp only [List.map_toArray, List.map_cons, List.map_nil]); first | done | rfl | (simp only [List.length_drop, List.length_take]; rfl)) ?_
        with_reducible refine (laws_toTerm.calls k a0_0 a0_1 _ _ l0_2 _ _ l0_3 t770 t771 t772 t775 _ ?side1 ?side2 ?side3 ?side4 A12.out).mono ?_
        (case side1 => repeat (first | exact (Kd.C_below HR0_2.out HB.out) | (with_reducible refine Kd.C_alloc ?_ _) | (with_reducible refine Kd.C_drewN ?_ _) | (with_reducible refine Kd.C_drew ?_)))
        (case side2 => exact HC0_2.out)
        (case side3 => repeat (first | exact (Kd.C_below HR0_3.out HB.out) | (with_reducible refine Kd.C_alloc ?_ _) | (with_reducible refine Kd.C_drewN ?_ _) | (with_reducible refine Kd.C_drew ?_)))
        (case side4 => exact HC0_3.out)
        rintro e w32 ⟨v773, v776, rfl, ho0, ho1, hb⟩
        refine ⟨_, rfl, ?_⟩
        have n0_ := Aside0.mk (Kd.R_elder' (by (with_reducible repeat (first | apply Kd.R_alloc | apply Kd.R_drewN | apply Kd.R_drew)); exact HO755.out) (Kd.R_base ho0) hb)
        have n1_ := Aside0.mk (Kd.R_mono (Kd.R_told (Kd.R_told (Kd.R_old (by (with_reducible repeat (first | apply Kd.R_alloc | apply Kd.R_drewN | apply Kd.R_drew)); exact HO758.out) hb) (Kd.R_base ho0)) (Kd.R_base ho1)) (fun _ h_ => h_.1))
        have n2_ := Aside0.mk (Kd.R_elder' (by (with_reducible repeat (first | apply Kd.R_alloc | apply Kd.R_drewN | apply Kd.R_drew)); exact HO764.out) (Kd.R_base ho0) hb)
        have n3_ := Aside0.mk (Kd.R_mono (Kd.R_told (Kd.R_told (Kd.R_old (by (with_reducible repeat (first | apply Kd.R_alloc | apply Kd.R_drewN | apply Kd.R_drew)); exact HO767.out) hb) (Kd.R_base ho0)) (Kd.R_base ho1)) (fun _ h_ => h_.1))
        have n4_ := Aside0.mk (Kd.R_lower (Kd.R_new' (Kd.R_new' ho0 (Kd.R_lt (by (with_reducible repeat (first | apply Kd.R_alloc | apply Kd.R_drewN | apply Kd.R_drew)); exact HO755.out))) (Kd.R_lt (by (with_reducible repeat (first | apply Kd.R_alloc | apply Kd.R_drewN | apply Kd.R_drew)); exact HO764.out))) (below_size (by repeat (first | (with_reducible first | exact HB.out | apply below_alloc | apply pw_below_drewN | apply below_drew1 | refine below_set ?_ GE749.out | refine below_set ?_ GE768.out) | exact HB.out))))
        have n5_ := Aside0.mk (Kd.R_lower (Kd.R_newB (Kd.R_new' (Kd.R_new' (Kd.R_new' (Kd.R_new' ho1 (Kd.R_lt (by (with_reducible repeat (first | apply Kd.R_alloc | apply Kd.R_drewN | apply Kd.R_drew)); exact HO755.out))) (Kd.R_lt (by (with_reducible repeat (first | apply Kd.R_alloc | apply Kd.R_drewN | apply Kd.R_drew)); exact HO758.out))) (Kd.R_lt (by (with_reducible repeat (first | apply Kd.R_alloc | apply Kd.R_drewN | apply Kd.R_drew)); exact HO764.out))) (Kd.R_lt (by (with_reducible repeat (first | apply Kd.R_alloc | apply Kd.R_drewN | apply Kd.R_drew)); exact HO767.out))) (g := gb768) (o := .cells #[.int .i64 t760, .int .i64 t761, .slice Ao28 t762.length co28, .slice Ao29 t765.length co29] 48 (0, 0)) (by (with_reducible repeat (first | refine blk_drewN ?_ _ | refine blk_drew ?_ | refine blk_alloc ?_ _)); exact BK768.out)) (below_size (by repeat (first | (with_reducible first | exact HB.out | apply below_alloc | apply pw_below_drewN | apply below_drew1 | refine below_set ?_ GE749.out | refine below_set ?_ GE768.out) | exact HB.out))))
        have n6_ := Aside0.mk (blk_below (g := gb749) (o := .cells #[.int .i64 a0_0, .int .i64 a0_1, .slice A0_2 l0_2.length c0_2, .slice A0_3 l0_3.length c0_3] 43 (0, 0)) (by (with_reducible repeat (first | refine blk_drewN ?_ _ | refine blk_drew ?_ | refine blk_alloc ?_ _)); exact BK749.out) hb)
        have n7_ := Aside0.mk (blk_below (g := gb768) (o := .cells #[.int .i64 t760, .int .i64 t761, .slice Ao28 t762.length co28, .slice Ao29 t765.length co29] 48 (0, 0)) (by (with_reducible repeat (first | refine blk_drewN ?_ _ | refine blk_drew ?_ | refine blk_alloc ?_ _)); exact BK768.out) hb)
        have n8_ := Aside0.mk (below_step (by repeat (first | (with_reducible first | exact HB.out | apply below_alloc | apply pw_below_drewN | apply below_drew1 | refine below_set ?_ GE749.out | refine below_set ?_ GE768.out) | exact HB.out)) hb)
        clear HO755
        clear HO758
        clear HO764
        clear HO767
        clear BK749
        clear BK768
        clear HB
        have HO755 := n0_
        have HO758 := n1_
        have HO764 := n2_
        have HO767 := n3_
        have HO774 := n4_
        have HO777 := n5_
        have BK749 := n6_
        have BK768 := n7_
        have HB := n8_
        clear n0_ n1_ n2_ n3_ n4_ n5_ n6_ n7_ n8_
        (try clear hb)
        (try clear hb2)
        (try clear hk)
        (try clear hi)
        (try clear ho0)
        (try clear ho1)
        obtain ⟨Ao33, co33, eo33⟩ := Kd.R_slice HO774.out
        (first | subst eo33 | (injection eo33 with f1_ f2_ f3_; have f4_ := f1_.symm; have f5_ := f3_.symm; clear f1_ f2_ f3_; subst f4_; subst f5_))
        obtain ⟨Ao34, co34, eo34⟩ := Kd.R_slice HO777.out
        (first | subst eo34 | (injection eo34 with f1_ f2_ f3_; have f4_ := f1_.symm; have f5_ := f3_.symm; clear f1_ f2_ f3_; subst f4_; subst f5_))
        refine hK.out _ _ ⟨(blk_cell BK768.out 0).trans rfl, (blk_cell BK768.out 1).trans rfl, (blk_cell BK768.out 2).trans rfl, (blk_cell BK768.out 3).trans rfl, (blk_cell BK749.out 0).trans rfl, (blk_cell BK749.out 1).trans rfl, (blk_cell BK749.out 2).trans rfl, (blk_cell BK749.out 3).trans rfl⟩ (fun hHeld => ?_)
        clear hK K
        refine norm_ (a' := ?_) ?_ ?_
        rotate_left
        · show Act.put _ (some 24) _ = _
          simp only [Act.put, List.setIfInBounds_toArray, List.set_cons_zero, List.set_cons_succ, i64_w, i32_w]
          rfl
        refine one_ (i := 3) (N := some 25) #[true, true, true, true, false] rfl rfl (by kernel_rfl) (by decide) (fun K hK => ?_)
        refine goes_ Try.func35 (by kernel_rfl) rfl #[.agg #[.int .i64 t760, .int .i64 t761, .slice Ao28 t762.length co28, .slice Ao29 t765.length co29], .agg #[.int .i64 t770, .int .i64 t771, .slice Ao33 t772.length co33, .slice Ao34 t775.length co34]] (by rfl) rfl rfl (by (try simp only [List.map_toArray, List.map_cons, List.map_nil]); first | done | rfl | (simp only [List.length_drop, List.length_take]; rfl)) ?_
        with_reducible refine (laws_eqTerm.calls k t760 t761 _ _ t762 _ _ t765 t770 t771 _ _ t772 _ _ t775 true _ ?side1 ?side2 ?side3 ?side4 ?side5 ?side6 ?side7 ?side8 A13.out).mono ?_
        (case side1 => repeat (first | exact (Kd.R_reads' HO764.out).2.2 | (with_reducible refine Kd.C_alloc ?_ _) | (with_reducible refine Kd.C_drewN ?_ _) | (with_reducible refine Kd.C_drew ?_)))
        (case side2 => exact (Kd.R_reads' HO764.out).2.1)
        (case side3 => repeat (first | exact (Kd.R_reads' HO767.out).2.2 | (with_reducible refine Kd.C_alloc ?_ _) | (with_reducible refine Kd.C_drewN ?_ _) | (with_reducible refine Kd.C_drew ?_)))
        (case side4 => exact (Kd.R_reads' HO767.out).2.1)
        (case side5 => repeat (first | exact (Kd.R_reads' HO774.out).2.2 | (with_reducible refine Kd.C_alloc ?_ _) | (with_reducible refine Kd.C_drewN ?_ _) | (with_reducible refine Kd.C_drew ?_)))
        (case side6 => exact (Kd.R_reads' HO774.out).2.1)
        (case side7 => repeat (first | exact (Kd.R_reads' HO777.out).2.2 | (with_reducible refine Kd.C_alloc ?_ _) | (with_reducible refine Kd.C_drewN ?_ _) | (with_reducible refine Kd.C_drew ?_)))
        (case side8 => exact (Kd.R_reads' HO777.out).2.1)
        rintro e w35 ⟨rfl, hb⟩
        refine ⟨_, rfl, ?_⟩
        have n0_ := Aside0.mk (Kd.R_below (by (with_reducible repeat (first | apply Kd.R_alloc | apply Kd.R_drewN | apply Kd.R_drew)); exact HO755.out) hb)
        have n1_ := Aside0.mk (Kd.R_below (by (with_reducible repeat (first | apply Kd.R_alloc | apply Kd.R_drewN | apply Kd.R_drew)); exact HO758.out) hb)
        have n2_ := Aside0.mk (Kd.R_below (by (with_reducible repeat (first | apply Kd.R_alloc | apply Kd.R_drewN | apply Kd.R_drew)); exact HO764.out) hb)
        have n3_ := Aside0.mk (Kd.R_below (by (with_reducible repeat (first | apply Kd.R_alloc | apply Kd.R_drewN | apply Kd.R_drew)); exact HO767.out) hb)
        have n4_ := Aside0.mk (Kd.R_below (by (with_reducible repeat (first | apply Kd.R_alloc | apply Kd.R_drewN | apply Kd.R_drew)); exact HO774.out) hb)
        have n5_ := Aside0.mk (Kd.R_below (by (with_reducible repeat (first | apply Kd.R_alloc | apply Kd.R_drewN | apply Kd.R_drew)); exact HO777.out) hb)
        have n6_ := Aside0.mk (blk_below (g := gb749) (o := .cells #[.int .i64 a0_0, .int .i64 a0_1, .slice A0_2 l0_2.length c0_2, .slice A0_3 l0_3.length c0_3] 43 (0, 0)) (by (with_reducible repeat (first | refine blk_drewN ?_ _ | refine blk_drew ?_ | refine blk_alloc ?_ _)); exact BK749.out) hb)
        have n7_ := Aside0.mk (blk_below (g := gb768) (o := .cells #[.int .i64 t760, .int .i64 t761, .slice Ao28 t762.length co28, .slice Ao29 t765.length co29] 48 (0, 0)) (by (with_reducible repeat (first | refine blk_drewN ?_ _ | refine blk_drew ?_ | refine blk_alloc ?_ _)); exact BK768.out) hb)
        have n8_ := Aside0.mk (below_step (by repeat (first | (with_reducible first | exact HB.out | apply below_alloc | apply pw_below_drewN | apply below_drew1 | refine below_set ?_ GE749.out | refine below_set ?_ GE768.out) | exact HB.out)) hb)
        clear HO755
        clear HO758
        clear HO764
        clear HO767
        clear HO774
        clear HO777
        clear BK749
        clear BK768
        clear HB
        have HO755 := n0_
        have HO758 := n1_
        have HO764 := n2_
        have HO767 := n3_
        have HO774 := n4_
        have HO777 := n5_
        have BK749 := n6_
        have BK768 := n7_
        have HB := n8_
        clear n0_ n1_ n2_ n3_ n4_ n5_ n6_ n7_ n8_
        (try clear hb)
        (try clear hb2)
        (try clear hk)
        (try clear hi)
        refine hK.out _ _ ⟨(blk_cell BK768.out 0).trans rfl, (blk_cell BK768.out 1).trans rfl, (blk_cell BK768.out 2).trans rfl, (blk_cell BK768.out 3).trans rfl, (blk_cell BK749.out 0).trans rfl, (blk_cell BK749.out 1).trans rfl, (blk_cell BK749.out 2).trans rfl, (blk_cell BK749.out 3).trans rfl⟩ (fun hHeld => ?_)
        clear hK K
        refine norm_ (a' := ?_) ?_ ?_
        rotate_left
        · show Act.put _ (some 25) _ = _
          simp only [Act.put, List.setIfInBounds_toArray, List.set_cons_zero, List.set_cons_succ, i64_w, i32_w]
          rfl
        refine pure_ (i := 4) (N := some 26) (v := ?_) (a' := ?_) #[true, true, true, true, true] rfl rfl (by kernel_rfl) (fun _ _ _ h => h) (Or.inl ⟨by rfl, ?_⟩) ?_ ?_
        rotate_left
        · intro w'
          go_simp
          with_reducible rfl
        rotate_left
        · simp only [Act.put, List.setIfInBounds_toArray, List.set_cons_zero, List.set_cons_succ, i64_w, i32_w]
          rfl
        refine done_ (by kernel_rfl) ?_
        try go_wp2
        go_ret
        exact ⟨by first | rfl | (simp [errW_none, errW_some] <;> rfl) | (simp [*, errW_none, errW_some] <;> rfl), by repeat (first | (with_reducible first | exact HB.out | apply below_alloc | apply pw_below_drewN | apply below_drew1 | refine below_set ?_ GE749.out | refine below_set ?_ GE768.out) | exact HB.out)⟩
      · replace c14 := Bool.eq_false_iff.mpr c14
        subst c14
        have H1 : (some false) = some r := by rw [if_neg (show ¬ (false = true) by decide)] at H; exact H
        clear H
        have H := H1
        clear H1
        obtain rfl := Option.some.inj H
        exact absurd hr_ (by decide)

def laws_FnExactIsRedex.Pure : Prop := ∀ (a0_0 : Int) (a0_1 : Int) (l0_2 : List Int) (l0_3 : List (S43)), (Lit.int .i64 a0_0).wf = true → (Lit.int .i64 a0_1).wf = true → ((∀ z ∈ l0_2, (Lit.int .i64 z).wf = true) ∧ l0_2.length ≤ maxLen) → ((∀ z ∈ l0_3, Wf43 z) ∧ l0_3.length ≤ maxLen) → ∃ k, laws_FnExactIsRedex.f k a0_0 a0_1 l0_2 l0_3 = some true

end Go.Proofs.Ytnokgkhkmnldeaa.P
