-- Printed by this session's own program (wip/tools/mkprint.py) out of the translation. Not trusted: Lean checks it.
import Derived.Test.YthdbijjkcoafiaaP0
import Derived.Test.YthdbijjkcoafiaaPf15
import Derived.Test.YthdbijjkcoafiaaPf17
import Derived.Test.YthdbijjkcoafiaaPf19
import Derived.Test.YthdbijjkcoafiaaPf20
import Derived.Test.YthdbijjkcoafiaaPf21
namespace Go.Proofs.Ythdbijjkcoafiaa.P
open Go.RowKit Go.Proofs.YthdbijjkcoafiaaW.PrintWords Go.Proofs.YthdbijjkcoafiaaW.PrintLast Go.Proofs.YthdbijjkcoafiaaW.PrintMore
attribute [local go_sem] max2_int min2_int max_two min_two max_three min_three max_four min_four   -- for this text's walks alone
set_option linter.unusedVariables false
set_option linter.unusedSimpArgs false

/-! ### laws_FnExactIsGrade: function 4 -/
def laws_FnExactIsGrade.f (k : Nat) (a0_0 : Int) (l0_1 : List Int) (l0_2 : List Int) (l0_3 : List Bool) (a1 : Int) : Option (Bool) := (laws_szSystem.f a0_0 l0_1 l0_2 l0_3 1048576).bind fun t314 => (if t314 < 0 then (some true) else ((laws_toSystem.f k a0_0 l0_1 l0_2 l0_3).bind fun bt315 => ((spec_IsGrade.f k bt315.1 bt315.2.1 bt315.2.2.1 bt315.2.2.2 a1).bind fun t325 => ((laws_toSystem.f k a0_0 l0_1 l0_2 l0_3).bind fun bt326 => ((impl_IsGrade.f k bt326.1 bt326.2.1 bt326.2.2.1 bt326.2.2.2 a1).bind fun t337 => (if (t337 != t325) = true then (some false) else ((laws_toSystem.f k a0_0 l0_1 l0_2 l0_3).bind fun bt338 => ((laws_eqSystem.f k bt326.1 bt326.2.1 bt326.2.2.1 bt326.2.2.2 bt338.1 bt338.2.1 bt338.2.2.1 bt338.2.2.2).bind fun t348 => (if t348 = true then (some true) else (some false))))))))))
set_option maxHeartbeats 8000000 in
set_option maxRecDepth 100000 in
theorem laws_FnExactIsGrade.calls (k : Nat) (a0_0 : Int) (A0_1 : Option Addr) (c0_1 : Nat) (l0_1 : List Int) (A0_2 : Option Addr) (c0_2 : Nat) (l0_2 : List Int) (A0_3 : Option Addr) (c0_3 : Nat) (l0_3 : List Bool) (a1 : Int) (r : Bool) (w : World) (hr0_1 : Kd.C (Kd.int .i64) w A0_1 l0_1.length l0_1) (hc0_1 : l0_1.length ≤ c0_1) (hr0_2 : Kd.C (Kd.int .i64) w A0_2 l0_2.length l0_2) (hc0_2 : l0_2.length ≤ c0_2) (hr0_3 : Kd.C Kd.bool w A0_3 l0_3.length l0_3) (hc0_3 : l0_3.length ≤ c0_3) (h : laws_FnExactIsGrade.f k a0_0 l0_1 l0_2 l0_3 a1 = some r) (hr_ : r = true) :
    Calls Try.prog 4 #[.agg #[.int .i64 a0_0, .slice A0_1 l0_1.length c0_1, .slice A0_2 l0_2.length c0_2, .slice A0_3 l0_3.length c0_3], .int .i64 a1] w fun e w' => e = .returned (.bool r) ∧ Below w.heap.size w w' := by
  have hu25 := Try.underlying25
  have hu28 := Try.underlying28
  have HR0_1 := Aside0.mk hr0_1
  have HC0_1 := Aside0.mk hc0_1
  clear hr0_1 hc0_1
  have HR0_2 := Aside0.mk hr0_2
  have HC0_2 := Aside0.mk hc0_2
  clear hr0_2 hc0_2
  have HR0_3 := Aside0.mk hr0_3
  have HC0_3 := Aside0.mk hc0_3
  clear hr0_3 hc0_3
  have HB := Aside0.mk (Below.refl w.heap.size w)
  have H : ((laws_szSystem.f a0_0 l0_1 l0_2 l0_3 1048576).bind fun t314 => (if t314 < 0 then (some true) else ((laws_toSystem.f k a0_0 l0_1 l0_2 l0_3).bind fun bt315 => ((spec_IsGrade.f k bt315.1 bt315.2.1 bt315.2.2.1 bt315.2.2.2 a1).bind fun t325 => ((laws_toSystem.f k a0_0 l0_1 l0_2 l0_3).bind fun bt326 => ((impl_IsGrade.f k bt326.1 bt326.2.1 bt326.2.2.1 bt326.2.2.2 a1).bind fun t337 => (if (t337 != t325) = true then (some false) else ((laws_toSystem.f k a0_0 l0_1 l0_2 l0_3).bind fun bt338 => ((laws_eqSystem.f k bt326.1 bt326.2.1 bt326.2.2.1 bt326.2.2.2 bt338.1 bt338.2.1 bt338.2.2.1 bt338.2.2.2).bind fun t348 => (if t348 = true then (some true) else (some false))))))))))) = some r := h
  clear h
  replace H := Option.bind_eq_some_iff.mp H
  obtain ⟨t314, A30, H⟩ := H
  replace H : (if t314 < 0 then (some true) else ((laws_toSystem.f k a0_0 l0_1 l0_2 l0_3).bind fun bt315 => ((spec_IsGrade.f k bt315.1 bt315.2.1 bt315.2.2.1 bt315.2.2.2 a1).bind fun t325 => ((laws_toSystem.f k a0_0 l0_1 l0_2 l0_3).bind fun bt326 => ((impl_IsGrade.f k bt326.1 bt326.2.1 bt326.2.2.1 bt326.2.2.2 a1).bind fun t337 => (if (t337 != t325) = true then (some false) else ((laws_toSystem.f k a0_0 l0_1 l0_2 l0_3).bind fun bt338 => ((laws_eqSystem.f k bt326.1 bt326.2.1 bt326.2.2.1 bt326.2.2.2 bt338.1 bt338.2.1 bt338.2.2.1 bt338.2.2.2).bind fun t348 => (if t348 = true then (some true) else (some false)))))))))) = some r := H
  have A3 := Aside0.mk A30
  clear A30
  by_cases c4 : t314 < 0
  · rw [if_pos c4] at H
    have c4b0 : decide (t314 < 0) = true := decide_eq_true c4
    clear c4
    obtain rfl := Option.some.inj H
    go_enter Try.func4, Try.ntmps4
    go_wp2_with (first | ((with_reducible refine gate_dst (N := 2) rfl ?_); refine box_event ?hg (N := 2) ?hd (cs := #[.int .i64 a0_0, .slice A0_1 l0_1.length c0_1, .slice A0_2 l0_2.length c0_2, .slice A0_3 l0_3.length c0_3]) (t := 25) ?hr ?_; (case hd => rfl); (case hg => rfl); (case hr => first | (go_simp; done) | (go_simp; rfl)); intro gb313 hg w5 hbox hb; have n0_ := Aside0.mk (below_step (by repeat (first | (with_reducible first | exact HB.out | apply below_alloc | apply pw_below_drewN | apply below_drew1) | exact HB.out)) hb); have n1_ := Aside0.mk (hbox); have n2_ := Aside0.mk ((by rw [hg]; exact (below_size (by repeat (first | (with_reducible first | exact HB.out | apply below_alloc | apply pw_below_drewN | apply below_drew1) | exact HB.out))) : w.heap.size ≤ gb313)); have n3_ := Aside0.mk ((by rw [hg]; exact (below_size (by repeat (first | (with_reducible first | exact HB.out | apply below_alloc | apply pw_below_drewN | apply below_drew1) | exact HB.out))) : w.heap.size ≤ gb313)); clear HB; have HB := n0_; have BK313 := n1_; have GW313 := n2_; have GE313 := n3_; clear n0_ n1_ n2_ n3_; clear hb hbox hg; have hcz6_0 : w5.cell? ⟨gb313, 0, none⟩ = some (.int .i64 a0_0) := (blk_cell BK313.out 0).trans rfl; have hcz6_1 : w5.cell? ⟨gb313, 1, none⟩ = some (.slice A0_1 l0_1.length c0_1) := (blk_cell BK313.out 1).trans rfl; have hcz6_2 : w5.cell? ⟨gb313, 2, none⟩ = some (.slice A0_2 l0_2.length c0_2) := (blk_cell BK313.out 2).trans rfl; have hcz6_3 : w5.cell? ⟨gb313, 3, none⟩ = some (.slice A0_3 l0_3.length c0_3) := (blk_cell BK313.out 3).trans rfl; have hfz6_0 := blk_frozen BK313.out 0; have hfz6_1 := blk_frozen BK313.out 1; have hfz6_2 := blk_frozen BK313.out 2; have hfz6_3 := blk_frozen BK313.out 3) | ((with_reducible refine gate_callee (f := 15) rfl ?_); refine goesL_ (some 11) rfl rfl Try.func15 (by kernel_rfl) rfl #[.agg #[.int .i64 a0_0, .slice A0_1 l0_1.length c0_1, .slice A0_2 l0_2.length c0_2, .slice A0_3 l0_3.length c0_3], .int .i64 1048576] rfl (by (try simp only [List.map_toArray, List.map_cons, List.map_nil]); first | done | rfl | (simp only [List.length_drop, List.length_take]; rfl)) ?_; (with_reducible refine (laws_szSystem.calls a0_0 _ _ l0_1 _ _ l0_2 _ _ l0_3 1048576 t314 _ ?side1 ?side2 ?side3 ?side4 ?side5 ?side6 A3.out).mono ?_); (case side1 => repeat (first | exact (Kd.C_below HR0_1.out HB.out) | (with_reducible refine Kd.C_alloc ?_ _) | (with_reducible refine Kd.C_drewN ?_ _) | (with_reducible refine Kd.C_drew ?_))); (case side2 => exact HC0_1.out); (case side3 => repeat (first | exact (Kd.C_below HR0_2.out HB.out) | (with_reducible refine Kd.C_alloc ?_ _) | (with_reducible refine Kd.C_drewN ?_ _) | (with_reducible refine Kd.C_drew ?_))); (case side4 => exact HC0_2.out); (case side5 => repeat (first | exact (Kd.C_below HR0_3.out HB.out) | (with_reducible refine Kd.C_alloc ?_ _) | (with_reducible refine Kd.C_drewN ?_ _) | (with_reducible refine Kd.C_drew ?_))); (case side6 => exact HC0_3.out); rintro e w7 ⟨rfl, hb⟩; refine ⟨_, rfl, ?_⟩; have n0_ := Aside0.mk (blk_below (g := gb313) (o := .cells #[.int .i64 a0_0, .slice A0_1 l0_1.length c0_1, .slice A0_2 l0_2.length c0_2, .slice A0_3 l0_3.length c0_3] 25 (0, 0)) (by (with_reducible repeat (first | refine blk_drewN ?_ _ | refine blk_drew ?_ | refine blk_alloc ?_ _)); exact BK313.out) hb); have n1_ := Aside0.mk (below_step (by repeat (first | (with_reducible first | exact HB.out | apply below_alloc | apply pw_below_drewN | apply below_drew1 | refine below_set ?_ GE313.out) | exact HB.out)) hb); clear BK313; clear HB; have BK313 := n0_; have HB := n1_; clear n0_ n1_; (try clear hb); (try clear hb2); (try clear hk); (try clear hi)))
    go_ret
    exact ⟨by first | rfl | (simp [errW_none, errW_some] <;> rfl) | (simp [*, errW_none, errW_some] <;> rfl), by repeat (first | (with_reducible first | exact HB.out | apply below_alloc | apply pw_below_drewN | apply below_drew1 | refine below_set ?_ GE313.out) | exact HB.out)⟩
  · rw [if_neg c4] at H
    have c4b0 : decide (t314 < 0) = false := decide_eq_false c4
    clear c4
    replace H := Option.bind_eq_some_iff.mp H
    obtain ⟨⟨t315, t316, t319, t322⟩, A80, H⟩ := H
    replace H : ((spec_IsGrade.f k t315 t316 t319 t322 a1).bind fun t325 => ((laws_toSystem.f k a0_0 l0_1 l0_2 l0_3).bind fun bt326 => ((impl_IsGrade.f k bt326.1 bt326.2.1 bt326.2.2.1 bt326.2.2.2 a1).bind fun t337 => (if (t337 != t325) = true then (some false) else ((laws_toSystem.f k a0_0 l0_1 l0_2 l0_3).bind fun bt338 => ((laws_eqSystem.f k bt326.1 bt326.2.1 bt326.2.2.1 bt326.2.2.2 bt338.1 bt338.2.1 bt338.2.2.1 bt338.2.2.2).bind fun t348 => (if t348 = true then (some true) else (some false)))))))) = some r := H
    have A8 := Aside0.mk A80
    clear A80
    replace H := Option.bind_eq_some_iff.mp H
    obtain ⟨t325, A90, H⟩ := H
    replace H : ((laws_toSystem.f k a0_0 l0_1 l0_2 l0_3).bind fun bt326 => ((impl_IsGrade.f k bt326.1 bt326.2.1 bt326.2.2.1 bt326.2.2.2 a1).bind fun t337 => (if (t337 != t325) = true then (some false) else ((laws_toSystem.f k a0_0 l0_1 l0_2 l0_3).bind fun bt338 => ((laws_eqSystem.f k bt326.1 bt326.2.1 bt326.2.2.1 bt326.2.2.2 bt338.1 bt338.2.1 bt338.2.2.1 bt338.2.2.2).bind fun t348 => (if t348 = true then (some true) else (some false))))))) = some r := H
    have A9 := Aside0.mk A90
    clear A90
    replace H := Option.bind_eq_some_iff.mp H
    obtain ⟨⟨t326, t327, t330, t333⟩, A100, H⟩ := H
    replace H : ((impl_IsGrade.f k t326 t327 t330 t333 a1).bind fun t337 => (if (t337 != t325) = true then (some false) else ((laws_toSystem.f k a0_0 l0_1 l0_2 l0_3).bind fun bt338 => ((laws_eqSystem.f k t326 t327 t330 t333 bt338.1 bt338.2.1 bt338.2.2.1 bt338.2.2.2).bind fun t348 => (if t348 = true then (some true) else (some false)))))) = some r := H
    have A10 := Aside0.mk A100
    clear A100
    replace H := Option.bind_eq_some_iff.mp H
    obtain ⟨t337, A110, H⟩ := H
    replace H : (if (t337 != t325) = true then (some false) else ((laws_toSystem.f k a0_0 l0_1 l0_2 l0_3).bind fun bt338 => ((laws_eqSystem.f k t326 t327 t330 t333 bt338.1 bt338.2.1 bt338.2.2.1 bt338.2.2.2).bind fun t348 => (if t348 = true then (some true) else (some false))))) = some r := H
    have A11 := Aside0.mk A110
    clear A110
    by_cases c12 : (t337 != t325) = true
    · rw [if_pos c12] at H
      have c12b0 : (t337 != t325) = true := c12
      (try (have c12b1 : decide (t337 = t325) = false := by simpa using c12))
      (try (have c12b2 : (t337 == t325) = false := by simpa using c12))
      (try (have c12b3 : ¬ (t337 = t325) := by simpa using c12))
      clear c12
      obtain rfl := Option.some.inj H
      exact absurd hr_ (by decide)
    · rw [if_neg c12] at H
      have c12b0 : (t337 != t325) = false := by simpa using c12
      (try (have c12b1 : decide (t337 = t325) = true := by simpa using c12))
      (try (have c12b2 : (t337 == t325) = true := by simpa using c12))
      clear c12
      replace H := Option.bind_eq_some_iff.mp H
      obtain ⟨⟨t338, t339, t342, t345⟩, A130, H⟩ := H
      replace H : ((laws_eqSystem.f k t326 t327 t330 t333 t338 t339 t342 t345).bind fun t348 => (if t348 = true then (some true) else (some false))) = some r := H
      have A13 := Aside0.mk A130
      clear A130
      replace H := Option.bind_eq_some_iff.mp H
      obtain ⟨t348, A140, H⟩ := H
      replace H : (if t348 = true then (some true) else (some false)) = some r := H
      have A14 := Aside0.mk A140
      clear A140
      by_cases c15 : t348 = true
      · subst c15
        have H1 : (some true) = some r := by rw [if_pos rfl] at H; exact H
        clear H
        have H := H1
        clear H1
        obtain rfl := Option.some.inj H
        go_enter Try.func4, Try.ntmps4
        try go_wp2_with (first | ((with_reducible refine gate_dst (N := 2) rfl ?_); refine box_event ?hg (N := 2) ?hd (cs := #[.int .i64 a0_0, .slice A0_1 l0_1.length c0_1, .slice A0_2 l0_2.length c0_2, .slice A0_3 l0_3.length c0_3]) (t := 25) ?hr ?_; (case hd => rfl); (case hg => rfl); (case hr => first | (go_simp; done) | (go_simp; rfl)); intro gb313 hg w16 hbox hb; have n0_ := Aside0.mk (below_step (by repeat (first | (with_reducible first | exact HB.out | apply below_alloc | apply pw_below_drewN | apply below_drew1) | exact HB.out)) hb); have n1_ := Aside0.mk (hbox); have n2_ := Aside0.mk ((by rw [hg]; exact (below_size (by repeat (first | (with_reducible first | exact HB.out | apply below_alloc | apply pw_below_drewN | apply below_drew1) | exact HB.out))) : w.heap.size ≤ gb313)); have n3_ := Aside0.mk ((by rw [hg]; exact (below_size (by repeat (first | (with_reducible first | exact HB.out | apply below_alloc | apply pw_below_drewN | apply below_drew1) | exact HB.out))) : w.heap.size ≤ gb313)); clear HB; have HB := n0_; have BK313 := n1_; have GW313 := n2_; have GE313 := n3_; clear n0_ n1_ n2_ n3_; clear hb hbox hg; have hcz17_0 : w16.cell? ⟨gb313, 0, none⟩ = some (.int .i64 a0_0) := (blk_cell BK313.out 0).trans rfl; have hcz17_1 : w16.cell? ⟨gb313, 1, none⟩ = some (.slice A0_1 l0_1.length c0_1) := (blk_cell BK313.out 1).trans rfl; have hcz17_2 : w16.cell? ⟨gb313, 2, none⟩ = some (.slice A0_2 l0_2.length c0_2) := (blk_cell BK313.out 2).trans rfl; have hcz17_3 : w16.cell? ⟨gb313, 3, none⟩ = some (.slice A0_3 l0_3.length c0_3) := (blk_cell BK313.out 3).trans rfl; have hfz17_0 := blk_frozen BK313.out 0; have hfz17_1 := blk_frozen BK313.out 1; have hfz17_2 := blk_frozen BK313.out 2; have hfz17_3 := blk_frozen BK313.out 3) | ((with_reducible refine gate_callee (f := 15) rfl ?_); refine goesL_ (some 11) rfl rfl Try.func15 (by kernel_rfl) rfl #[.agg #[.int .i64 a0_0, .slice A0_1 l0_1.length c0_1, .slice A0_2 l0_2.length c0_2, .slice A0_3 l0_3.length c0_3], .int .i64 1048576] rfl (by (try simp only [List.map_toArray, List.map_cons, List.map_nil]); first | done | rfl | (simp only [List.length_drop, List.length_take]; rfl)) ?_; (with_reducible refine (laws_szSystem.calls a0_0 _ _ l0_1 _ _ l0_2 _ _ l0_3 1048576 t314 _ ?side1 ?side2 ?side3 ?side4 ?side5 ?side6 A3.out).mono ?_); (case side1 => repeat (first | exact (Kd.C_below HR0_1.out HB.out) | (with_reducible refine Kd.C_alloc ?_ _) | (with_reducible refine Kd.C_drewN ?_ _) | (with_reducible refine Kd.C_drew ?_))); (case side2 => exact HC0_1.out); (case side3 => repeat (first | exact (Kd.C_below HR0_2.out HB.out) | (with_reducible refine Kd.C_alloc ?_ _) | (with_reducible refine Kd.C_drewN ?_ _) | (with_reducible refine Kd.C_drew ?_))); (case side4 => exact HC0_2.out); (case side5 => repeat (first | exact (Kd.C_below HR0_3.out HB.out) | (with_reducible refine Kd.C_alloc ?_ _) | (with_reducible refine Kd.C_drewN ?_ _) | (with_reducible refine Kd.C_drew ?_))); (case side6 => exact HC0_3.out); rintro e w18 ⟨rfl, hb⟩; refine ⟨_, rfl, ?_⟩; have n0_ := Aside0.mk (blk_below (g := gb313) (o := .cells #[.int .i64 a0_0, .slice A0_1 l0_1.length c0_1, .slice A0_2 l0_2.length c0_2, .slice A0_3 l0_3.length c0_3] 25 (0, 0)) (by (with_reducible repeat (first | refine blk_drewN ?_ _ | refine blk_drew ?_ | refine blk_alloc ?_ _)); exact BK313.out) hb); have n1_ := Aside0.mk (below_step (by repeat (first | (with_reducible first | exact HB.out | apply below_alloc | apply pw_below_drewN | apply below_drew1 | refine below_set ?_ GE313.out) | exact HB.out)) hb); clear BK313; clear HB; have BK313 := n0_; have HB := n1_; clear n0_ n1_; (try clear hb); (try clear hb2); (try clear hk); (try clear hi); have hcz19_0 : w18.cell? ⟨gb313, 0, none⟩ = some (.int .i64 a0_0) := (blk_cell BK313.out 0).trans rfl; have hcz19_1 : w18.cell? ⟨gb313, 1, none⟩ = some (.slice A0_1 l0_1.length c0_1) := (blk_cell BK313.out 1).trans rfl; have hcz19_2 : w18.cell? ⟨gb313, 2, none⟩ = some (.slice A0_2 l0_2.length c0_2) := (blk_cell BK313.out 2).trans rfl; have hcz19_3 : w18.cell? ⟨gb313, 3, none⟩ = some (.slice A0_3 l0_3.length c0_3) := (blk_cell BK313.out 3).trans rfl; have hfz19_0 := blk_frozen BK313.out 0; have hfz19_1 := blk_frozen BK313.out 1; have hfz19_2 := blk_frozen BK313.out 2; have hfz19_3 := blk_frozen BK313.out 3) | ((with_reducible refine gate_callee (f := 17) rfl ?_); refine goesL_ (some 15) rfl rfl Try.func17 (by kernel_rfl) rfl #[.agg #[.int .i64 a0_0, .slice A0_1 l0_1.length c0_1, .slice A0_2 l0_2.length c0_2, .slice A0_3 l0_3.length c0_3]] rfl (by (try simp only [List.map_toArray, List.map_cons, List.map_nil]); first | done | rfl | (simp only [List.length_drop, List.length_take]; rfl)) ?_; (with_reducible refine (laws_toSystem.calls k a0_0 _ _ l0_1 _ _ l0_2 _ _ l0_3 t315 t316 t319 t322 _ ?side1 ?side2 ?side3 ?side4 ?side5 ?side6 A8.out).mono ?_); (case side1 => repeat (first | exact (Kd.C_below HR0_1.out HB.out) | (with_reducible refine Kd.C_alloc ?_ _) | (with_reducible refine Kd.C_drewN ?_ _) | (with_reducible refine Kd.C_drew ?_))); (case side2 => exact HC0_1.out); (case side3 => repeat (first | exact (Kd.C_below HR0_2.out HB.out) | (with_reducible refine Kd.C_alloc ?_ _) | (with_reducible refine Kd.C_drewN ?_ _) | (with_reducible refine Kd.C_drew ?_))); (case side4 => exact HC0_2.out); (case side5 => repeat (first | exact (Kd.C_below HR0_3.out HB.out) | (with_reducible refine Kd.C_alloc ?_ _) | (with_reducible refine Kd.C_drewN ?_ _) | (with_reducible refine Kd.C_drew ?_))); (case side6 => exact HC0_3.out); rintro e w20 ⟨v317, v320, v323, rfl, ho0, ho1, ho2, hb⟩; refine ⟨_, rfl, ?_⟩; have n0_ := Aside0.mk (Kd.R_lower ho0 (below_size (by repeat (first | (with_reducible first | exact HB.out | apply below_alloc | apply pw_below_drewN | apply below_drew1 | refine below_set ?_ GE313.out) | exact HB.out)))); have n1_ := Aside0.mk (Kd.R_lower ho1 (below_size (by repeat (first | (with_reducible first | exact HB.out | apply below_alloc | apply pw_below_drewN | apply below_drew1 | refine below_set ?_ GE313.out) | exact HB.out)))); have n2_ := Aside0.mk (Kd.R_lower ho2 (below_size (by repeat (first | (with_reducible first | exact HB.out | apply below_alloc | apply pw_below_drewN | apply below_drew1 | refine below_set ?_ GE313.out) | exact HB.out)))); have n3_ := Aside0.mk (blk_below (g := gb313) (o := .cells #[.int .i64 a0_0, .slice A0_1 l0_1.length c0_1, .slice A0_2 l0_2.length c0_2, .slice A0_3 l0_3.length c0_3] 25 (0, 0)) (by (with_reducible repeat (first | refine blk_drewN ?_ _ | refine blk_drew ?_ | refine blk_alloc ?_ _)); exact BK313.out) hb); have n4_ := Aside0.mk (below_step (by repeat (first | (with_reducible first | exact HB.out | apply below_alloc | apply pw_below_drewN | apply below_drew1 | refine below_set ?_ GE313.out) | exact HB.out)) hb); clear BK313; clear HB; have HO318 := n0_; have HO321 := n1_; have HO324 := n2_; have BK313 := n3_; have HB := n4_; clear n0_ n1_ n2_ n3_ n4_; (try clear hb); (try clear hb2); (try clear hk); (try clear hi); (try clear ho0); (try clear ho1); (try clear ho2); obtain ⟨Ao21, co21, eo21⟩ := Kd.R_slice HO318.out; subst eo21; obtain ⟨Ao22, co22, eo22⟩ := Kd.R_slice HO321.out; subst eo22; obtain ⟨Ao23, co23, eo23⟩ := Kd.R_slice HO324.out; subst eo23) | ((with_reducible refine gate_callee (f := 20) rfl ?_); refine goesL_ (some 17) rfl rfl Try.func20 (by kernel_rfl) rfl #[.agg #[.int .i64 t315, .slice Ao21 t316.length co21, .slice Ao22 t319.length co22, .slice Ao23 t322.length co23], .int .i64 a1] rfl (by (try simp only [List.map_toArray, List.map_cons, List.map_nil]); first | done | rfl | (simp only [List.length_drop, List.length_take]; rfl)) ?_; (with_reducible refine (spec_IsGrade.calls k t315 _ _ t316 _ _ t319 _ _ t322 a1 t325 _ ?side1 ?side2 ?side3 ?side4 ?side5 ?side6 A9.out).mono ?_); (case side1 => repeat (first | exact (Kd.R_reads' HO318.out).2.2 | (with_reducible refine Kd.C_alloc ?_ _) | (with_reducible refine Kd.C_drewN ?_ _) | (with_reducible refine Kd.C_drew ?_))); (case side2 => exact (Kd.R_reads' HO318.out).2.1); (case side3 => repeat (first | exact (Kd.R_reads' HO321.out).2.2 | (with_reducible refine Kd.C_alloc ?_ _) | (with_reducible refine Kd.C_drewN ?_ _) | (with_reducible refine Kd.C_drew ?_))); (case side4 => exact (Kd.R_reads' HO321.out).2.1); (case side5 => repeat (first | exact (Kd.R_reads' HO324.out).2.2 | (with_reducible refine Kd.C_alloc ?_ _) | (with_reducible refine Kd.C_drewN ?_ _) | (with_reducible refine Kd.C_drew ?_))); (case side6 => exact (Kd.R_reads' HO324.out).2.1); rintro e w24 ⟨rfl, hb⟩; refine ⟨_, rfl, ?_⟩; have n0_ := Aside0.mk (Kd.R_below (by (with_reducible repeat (first | apply Kd.R_alloc | apply Kd.R_drewN | apply Kd.R_drew)); exact HO318.out) hb); have n1_ := Aside0.mk (Kd.R_below (by (with_reducible repeat (first | apply Kd.R_alloc | apply Kd.R_drewN | apply Kd.R_drew)); exact HO321.out) hb); have n2_ := Aside0.mk (Kd.R_below (by (with_reducible repeat (first | apply Kd.R_alloc | apply Kd.R_drewN | apply Kd.R_drew)); exact HO324.out) hb); have n3_ := Aside0.mk (blk_below (g := gb313) (o := .cells #[.int .i64 a0_0, .slice A0_1 l0_1.length c0_1, .slice A0_2 l0_2.length c0_2, .slice A0_3 l0_3.length c0_3] 25 (0, 0)) (by (with_reducible repeat (first | refine blk_drewN ?_ _ | refine blk_drew ?_ | refine blk_alloc ?_ _)); exact BK313.out) hb); have n4_ := Aside0.mk (below_step (by repeat (first | (with_reducible first | exact HB.out | apply below_alloc | apply pw_below_drewN | apply below_drew1 | refine below_set ?_ GE313.out) | exact HB.out)) hb); clear HO318; clear HO321; clear HO324; clear BK313; clear HB; have HO318 := n0_; have HO321 := n1_; have HO324 := n2_; have BK313 := n3_; have HB := n4_; clear n0_ n1_ n2_ n3_ n4_; (try clear hb); (try clear hb2); (try clear hk); (try clear hi); have hcz25_0 : w24.cell? ⟨gb313, 0, none⟩ = some (.int .i64 a0_0) := (blk_cell BK313.out 0).trans rfl; have hcz25_1 : w24.cell? ⟨gb313, 1, none⟩ = some (.slice A0_1 l0_1.length c0_1) := (blk_cell BK313.out 1).trans rfl; have hcz25_2 : w24.cell? ⟨gb313, 2, none⟩ = some (.slice A0_2 l0_2.length c0_2) := (blk_cell BK313.out 2).trans rfl; have hcz25_3 : w24.cell? ⟨gb313, 3, none⟩ = some (.slice A0_3 l0_3.length c0_3) := (blk_cell BK313.out 3).trans rfl; have hfz25_0 := blk_frozen BK313.out 0; have hfz25_1 := blk_frozen BK313.out 1; have hfz25_2 := blk_frozen BK313.out 2; have hfz25_3 := blk_frozen BK313.out 3) | ((with_reducible refine gate_callee (f := 17) rfl ?_); refine goesL_ (some 19) rfl rfl Try.func17 (by kernel_rfl) rfl #[.agg #[.int .i64 a0_0, .slice A0_1 l0_1.length c0_1, .slice A0_2 l0_2.length c0_2, .slice A0_3 l0_3.length c0_3]] rfl (by (try simp only [List.map_toArray, List.map_cons, List.map_nil]); first | done | rfl | (simp only [List.length_drop, List.length_take]; rfl)) ?_; (with_reducible refine (laws_toSystem.calls k a0_0 _ _ l0_1 _ _ l0_2 _ _ l0_3 t326 t327 t330 t333 _ ?side1 ?side2 ?side3 ?side4 ?side5 ?side6 A10.out).mono ?_); (case side1 => repeat (first | exact (Kd.C_below HR0_1.out HB.out) | (with_reducible refine Kd.C_alloc ?_ _) | (with_reducible refine Kd.C_drewN ?_ _) | (with_reducible refine Kd.C_drew ?_))); (case side2 => exact HC0_1.out); (case side3 => repeat (first | exact (Kd.C_below HR0_2.out HB.out) | (with_reducible refine Kd.C_alloc ?_ _) | (with_reducible refine Kd.C_drewN ?_ _) | (with_reducible refine Kd.C_drew ?_))); (case side4 => exact HC0_2.out); (case side5 => repeat (first | exact (Kd.C_below HR0_3.out HB.out) | (with_reducible refine Kd.C_alloc ?_ _) | (with_reducible refine Kd.C_drewN ?_ _) | (with_reducible refine Kd.C_drew ?_))); (case side6 => exact HC0_3.out); rintro e w26 ⟨v328, v331, v334, rfl, ho0, ho1, ho2, hb⟩; refine ⟨_, rfl, ?_⟩; have n0_ := Aside0.mk (Kd.R_mono (Kd.R_told (Kd.R_told (Kd.R_old (by (with_reducible repeat (first | apply Kd.R_alloc | apply Kd.R_drewN | apply Kd.R_drew)); exact HO318.out) hb) (Kd.R_base ho0)) (Kd.R_base ho1)) (fun _ h_ => h_.1)); have n1_ := Aside0.mk (Kd.R_mono (Kd.R_told (Kd.R_told (Kd.R_old (by (with_reducible repeat (first | apply Kd.R_alloc | apply Kd.R_drewN | apply Kd.R_drew)); exact HO321.out) hb) (Kd.R_base ho0)) (Kd.R_base ho1)) (fun _ h_ => h_.1)); have n2_ := Aside0.mk (Kd.R_elder' (by (with_reducible repeat (first | apply Kd.R_alloc | apply Kd.R_drewN | apply Kd.R_drew)); exact HO324.out) (Kd.R_base ho2) hb); have n3_ := Aside0.mk (Kd.R_lower (Kd.R_new' (Kd.R_new' ho0 (Kd.R_lt (by (with_reducible repeat (first | apply Kd.R_alloc | apply Kd.R_drewN | apply Kd.R_drew)); exact HO318.out))) (Kd.R_lt (by (with_reducible repeat (first | apply Kd.R_alloc | apply Kd.R_drewN | apply Kd.R_drew)); exact HO321.out))) (below_size (by repeat (first | (with_reducible first | exact HB.out | apply below_alloc | apply pw_below_drewN | apply below_drew1 | refine below_set ?_ GE313.out) | exact HB.out)))); have n4_ := Aside0.mk (Kd.R_lower (Kd.R_new' (Kd.R_new' ho1 (Kd.R_lt (by (with_reducible repeat (first | apply Kd.R_alloc | apply Kd.R_drewN | apply Kd.R_drew)); exact HO318.out))) (Kd.R_lt (by (with_reducible repeat (first | apply Kd.R_alloc | apply Kd.R_drewN | apply Kd.R_drew)); exact HO321.out))) (below_size (by repeat (first | (with_reducible first | exact HB.out | apply below_alloc | apply pw_below_drewN | apply below_drew1 | refine below_set ?_ GE313.out) | exact HB.out)))); have n5_ := Aside0.mk (Kd.R_lower (Kd.R_new' ho2 (Kd.R_lt (by (with_reducible repeat (first | apply Kd.R_alloc | apply Kd.R_drewN | apply Kd.R_drew)); exact HO324.out))) (below_size (by repeat (first | (with_reducible first | exact HB.out | apply below_alloc | apply pw_below_drewN | apply below_drew1 | refine below_set ?_ GE313.out) | exact HB.out)))); have n6_ := Aside0.mk (blk_below (g := gb313) (o := .cells #[.int .i64 a0_0, .slice A0_1 l0_1.length c0_1, .slice A0_2 l0_2.length c0_2, .slice A0_3 l0_3.length c0_3] 25 (0, 0)) (by (with_reducible repeat (first | refine blk_drewN ?_ _ | refine blk_drew ?_ | refine blk_alloc ?_ _)); exact BK313.out) hb); have n7_ := Aside0.mk (below_step (by repeat (first | (with_reducible first | exact HB.out | apply below_alloc | apply pw_below_drewN | apply below_drew1 | refine below_set ?_ GE313.out) | exact HB.out)) hb); clear HO318; clear HO321; clear HO324; clear BK313; clear HB; have HO318 := n0_; have HO321 := n1_; have HO324 := n2_; have HO329 := n3_; have HO332 := n4_; have HO335 := n5_; have BK313 := n6_; have HB := n7_; clear n0_ n1_ n2_ n3_ n4_ n5_ n6_ n7_; (try clear hb); (try clear hb2); (try clear hk); (try clear hi); (try clear ho0); (try clear ho1); (try clear ho2)) | ((with_reducible refine gate_dst (N := 7) rfl ?_); refine box_event ?hg (N := 7) ?hd (cs := #[.int .i64 0, .slice none 0 0, .slice none 0 0, .slice none 0 0]) (t := 28) ?hr ?_; (case hd => rfl); (case hg => rfl); (case hr => first | (go_simp; done) | (go_simp; rfl)); intro gb336 hg w27 hbox hb; have n0_ := Aside0.mk (Kd.R_below (by (with_reducible repeat (first | apply Kd.R_alloc | apply Kd.R_drewN | apply Kd.R_drew)); exact HO318.out) hb); have n1_ := Aside0.mk (Kd.R_below (by (with_reducible repeat (first | apply Kd.R_alloc | apply Kd.R_drewN | apply Kd.R_drew)); exact HO321.out) hb); have n2_ := Aside0.mk (Kd.R_below (by (with_reducible repeat (first | apply Kd.R_alloc | apply Kd.R_drewN | apply Kd.R_drew)); exact HO324.out) hb); have n3_ := Aside0.mk (Kd.R_below (by (with_reducible repeat (first | apply Kd.R_alloc | apply Kd.R_drewN | apply Kd.R_drew)); exact HO329.out) hb); have n4_ := Aside0.mk (Kd.R_below (by (with_reducible repeat (first | apply Kd.R_alloc | apply Kd.R_drewN | apply Kd.R_drew)); exact HO332.out) hb); have n5_ := Aside0.mk (Kd.R_below (by (with_reducible repeat (first | apply Kd.R_alloc | apply Kd.R_drewN | apply Kd.R_drew)); exact HO335.out) hb); have n6_ := Aside0.mk (blk_below (g := gb313) (o := .cells #[.int .i64 a0_0, .slice A0_1 l0_1.length c0_1, .slice A0_2 l0_2.length c0_2, .slice A0_3 l0_3.length c0_3] 25 (0, 0)) (by (with_reducible repeat (first | refine blk_drewN ?_ _ | refine blk_drew ?_ | refine blk_alloc ?_ _)); exact BK313.out) hb); have n7_ := Aside0.mk (below_step (by repeat (first | (with_reducible first | exact HB.out | apply below_alloc | apply pw_below_drewN | apply below_drew1 | refine below_set ?_ GE313.out) | exact HB.out)) hb); have n8_ := Aside0.mk (hbox); have n9_ := Aside0.mk ((by rw [hg]; exact (below_size (by repeat (first | (with_reducible first | exact HB.out | apply below_alloc | apply pw_below_drewN | apply below_drew1 | refine below_set ?_ GE313.out) | exact HB.out))) : w.heap.size ≤ gb336)); have n10_ := Aside0.mk ((by rw [hg]; exact (below_size (by repeat (first | (with_reducible first | exact HB.out | apply below_alloc | apply pw_below_drewN | apply below_drew1 | refine below_set ?_ GE313.out) | exact HB.out))) : w.heap.size ≤ gb336)); have n11_ := Aside0.mk ((by rw [hg]; exact Nat.ne_of_lt (blk_lt (g := gb313) (o := .cells #[.int .i64 a0_0, .slice A0_1 l0_1.length c0_1, .slice A0_2 l0_2.length c0_2, .slice A0_3 l0_3.length c0_3] 25 (0, 0)) (by (with_reducible repeat (first | refine blk_drewN ?_ _ | refine blk_drew ?_ | refine blk_alloc ?_ _)); exact BK313.out)) : gb313 ≠ gb336)); have n12_ := Aside0.mk ((by rw [hg]; exact Nat.ne_of_gt (blk_lt (g := gb313) (o := .cells #[.int .i64 a0_0, .slice A0_1 l0_1.length c0_1, .slice A0_2 l0_2.length c0_2, .slice A0_3 l0_3.length c0_3] 25 (0, 0)) (by (with_reducible repeat (first | refine blk_drewN ?_ _ | refine blk_drew ?_ | refine blk_alloc ?_ _)); exact BK313.out)) : gb336 ≠ gb313)); clear HO318; clear HO321; clear HO324; clear HO329; clear HO332; clear HO335; clear BK313; clear HB; have HO318 := n0_; have HO321 := n1_; have HO324 := n2_; have HO329 := n3_; have HO332 := n4_; have HO335 := n5_; have BK313 := n6_; have HB := n7_; have BK336 := n8_; have GW336 := n9_; have GE336 := n10_; have NB313_336 := n11_; have NB336_313 := n12_; clear n0_ n1_ n2_ n3_ n4_ n5_ n6_ n7_ n8_ n9_ n10_ n11_ n12_; clear hb hbox hg; have hnb28 := NB336_313.out; have hnc28 := NB313_336.out; have hcz29_0 : w27.cell? ⟨gb336, 0, none⟩ = some (.int .i64 0) := (blk_cell BK336.out 0).trans rfl; have hcz29_1 : w27.cell? ⟨gb336, 1, none⟩ = some (.slice none 0 0) := (blk_cell BK336.out 1).trans rfl; have hcz29_2 : w27.cell? ⟨gb336, 2, none⟩ = some (.slice none 0 0) := (blk_cell BK336.out 2).trans rfl; have hcz29_3 : w27.cell? ⟨gb336, 3, none⟩ = some (.slice none 0 0) := (blk_cell BK336.out 3).trans rfl; have hfz29_0 := blk_frozen BK336.out 0; have hfz29_1 := blk_frozen BK336.out 1; have hfz29_2 := blk_frozen BK336.out 2; have hfz29_3 := blk_frozen BK336.out 3; obtain ⟨Ao30, co30, eo30⟩ := Kd.R_slice HO329.out; subst eo30; obtain ⟨Ao31, co31, eo31⟩ := Kd.R_slice HO332.out; subst eo31; obtain ⟨Ao32, co32, eo32⟩ := Kd.R_slice HO335.out; subst eo32) | ((with_reducible refine gate_callee (f := 21) rfl ?_); refine goesL_ (some 22) rfl rfl Try.func21 (by kernel_rfl) rfl #[.agg #[.int .i64 t326, .slice Ao30 t327.length co30, .slice Ao31 t330.length co31, .slice Ao32 t333.length co32], .int .i64 a1] rfl (by (try simp only [List.map_toArray, List.map_cons, List.map_nil]); first | done | rfl | (simp only [List.length_drop, List.length_take]; rfl)) ?_; (with_reducible refine (impl_IsGrade.calls k t326 _ _ t327 _ _ t330 _ _ t333 a1 t337 _ ?side1 ?side2 ?side3 ?side4 ?side5 ?side6 A11.out).mono ?_); (case side1 => refine (Kd.R_reads' (e := 3) (base := w.heap.size) (ok := fun k_ => ((some k_ ≠ (.slice Ao31 t330.length co31 : Value).ownBlock ∧ some k_ ≠ (.slice Ao21 t316.length co21 : Value).ownBlock) ∧ some k_ ≠ (.slice Ao22 t319.length co22 : Value).ownBlock)) (n := t327.length) (c := co30) ?_).2.2; exact (by (with_reducible repeat (first | apply Kd.R_alloc | apply Kd.R_drewN | apply Kd.R_drew)); exact (Kd.R_mono (Kd.R_far (p := ⟨gb336, 3, none⟩) (Kd.R_far (p := ⟨gb336, 2, none⟩) (Kd.R_far (p := ⟨gb336, 1, none⟩) (Kd.R_far (p := ⟨gb336, 0, none⟩) (Kd.R_types HO329.out BK336.out (by decide)) (fun _ hk => hk.2) (.int .i64 t326)) (fun _ hk => hk.2) (.slice Ao30 t327.length co30)) (fun _ hk => hk.2) (.slice Ao31 t330.length co31)) (fun _ hk => hk.2) (.slice Ao32 t333.length co32)) (fun _ h_ => h_.1)))); (case side2 => exact (Kd.R_reads' HO329.out).2.1); (case side3 => refine (Kd.R_reads' (e := 3) (base := w.heap.size) (ok := fun k_ => ((some k_ ≠ (.slice Ao30 t327.length co30 : Value).ownBlock ∧ some k_ ≠ (.slice Ao21 t316.length co21 : Value).ownBlock) ∧ some k_ ≠ (.slice Ao22 t319.length co22 : Value).ownBlock)) (n := t330.length) (c := co31) ?_).2.2; exact (by (with_reducible repeat (first | apply Kd.R_alloc | apply Kd.R_drewN | apply Kd.R_drew)); exact (Kd.R_mono (Kd.R_far (p := ⟨gb336, 3, none⟩) (Kd.R_far (p := ⟨gb336, 2, none⟩) (Kd.R_far (p := ⟨gb336, 1, none⟩) (Kd.R_far (p := ⟨gb336, 0, none⟩) (Kd.R_types HO332.out BK336.out (by decide)) (fun _ hk => hk.2) (.int .i64 t326)) (fun _ hk => hk.2) (.slice Ao30 t327.length co30)) (fun _ hk => hk.2) (.slice Ao31 t330.length co31)) (fun _ hk => hk.2) (.slice Ao32 t333.length co32)) (fun _ h_ => h_.1)))); (case side4 => exact (Kd.R_reads' HO332.out).2.1); (case side5 => refine (Kd.R_reads' (e := 4) (base := w.heap.size) (ok := fun k_ => (True ∧ some k_ ≠ (.slice Ao23 t322.length co23 : Value).ownBlock)) (n := t333.length) (c := co32) ?_).2.2; exact (by (with_reducible repeat (first | apply Kd.R_alloc | apply Kd.R_drewN | apply Kd.R_drew)); exact (Kd.R_mono (Kd.R_far (p := ⟨gb336, 3, none⟩) (Kd.R_far (p := ⟨gb336, 2, none⟩) (Kd.R_far (p := ⟨gb336, 1, none⟩) (Kd.R_far (p := ⟨gb336, 0, none⟩) (Kd.R_types HO335.out BK336.out (by decide)) (fun _ hk => hk.2) (.int .i64 t326)) (fun _ hk => hk.2) (.slice Ao30 t327.length co30)) (fun _ hk => hk.2) (.slice Ao31 t330.length co31)) (fun _ hk => hk.2) (.slice Ao32 t333.length co32)) (fun _ h_ => h_.1)))); (case side6 => exact (Kd.R_reads' HO335.out).2.1); rintro e w33 ⟨rfl, hb⟩; refine ⟨_, rfl, ?_⟩; have n0_ := Aside0.mk (Kd.R_below (by (with_reducible repeat (first | apply Kd.R_alloc | apply Kd.R_drewN | apply Kd.R_drew)); exact (Kd.R_mono (Kd.R_far (p := ⟨gb336, 3, none⟩) (Kd.R_far (p := ⟨gb336, 2, none⟩) (Kd.R_far (p := ⟨gb336, 1, none⟩) (Kd.R_far (p := ⟨gb336, 0, none⟩) (Kd.R_types HO318.out BK336.out (by decide)) (fun _ hk => hk.2) (.int .i64 t326)) (fun _ hk => hk.2) (.slice Ao30 t327.length co30)) (fun _ hk => hk.2) (.slice Ao31 t330.length co31)) (fun _ hk => hk.2) (.slice Ao32 t333.length co32)) (fun _ h_ => h_.1))) hb); have n1_ := Aside0.mk (Kd.R_below (by (with_reducible repeat (first | apply Kd.R_alloc | apply Kd.R_drewN | apply Kd.R_drew)); exact (Kd.R_mono (Kd.R_far (p := ⟨gb336, 3, none⟩) (Kd.R_far (p := ⟨gb336, 2, none⟩) (Kd.R_far (p := ⟨gb336, 1, none⟩) (Kd.R_far (p := ⟨gb336, 0, none⟩) (Kd.R_types HO321.out BK336.out (by decide)) (fun _ hk => hk.2) (.int .i64 t326)) (fun _ hk => hk.2) (.slice Ao30 t327.length co30)) (fun _ hk => hk.2) (.slice Ao31 t330.length co31)) (fun _ hk => hk.2) (.slice Ao32 t333.length co32)) (fun _ h_ => h_.1))) hb); have n2_ := Aside0.mk (Kd.R_below (by (with_reducible repeat (first | apply Kd.R_alloc | apply Kd.R_drewN | apply Kd.R_drew)); exact (Kd.R_mono (Kd.R_far (p := ⟨gb336, 3, none⟩) (Kd.R_far (p := ⟨gb336, 2, none⟩) (Kd.R_far (p := ⟨gb336, 1, none⟩) (Kd.R_far (p := ⟨gb336, 0, none⟩) (Kd.R_types HO324.out BK336.out (by decide)) (fun _ hk => hk.2) (.int .i64 t326)) (fun _ hk => hk.2) (.slice Ao30 t327.length co30)) (fun _ hk => hk.2) (.slice Ao31 t330.length co31)) (fun _ hk => hk.2) (.slice Ao32 t333.length co32)) (fun _ h_ => h_.1))) hb); have n3_ := Aside0.mk (Kd.R_below (by (with_reducible repeat (first | apply Kd.R_alloc | apply Kd.R_drewN | apply Kd.R_drew)); exact (Kd.R_mono (Kd.R_far (p := ⟨gb336, 3, none⟩) (Kd.R_far (p := ⟨gb336, 2, none⟩) (Kd.R_far (p := ⟨gb336, 1, none⟩) (Kd.R_far (p := ⟨gb336, 0, none⟩) (Kd.R_types HO329.out BK336.out (by decide)) (fun _ hk => hk.2) (.int .i64 t326)) (fun _ hk => hk.2) (.slice Ao30 t327.length co30)) (fun _ hk => hk.2) (.slice Ao31 t330.length co31)) (fun _ hk => hk.2) (.slice Ao32 t333.length co32)) (fun _ h_ => h_.1))) hb); have n4_ := Aside0.mk (Kd.R_below (by (with_reducible repeat (first | apply Kd.R_alloc | apply Kd.R_drewN | apply Kd.R_drew)); exact (Kd.R_mono (Kd.R_far (p := ⟨gb336, 3, none⟩) (Kd.R_far (p := ⟨gb336, 2, none⟩) (Kd.R_far (p := ⟨gb336, 1, none⟩) (Kd.R_far (p := ⟨gb336, 0, none⟩) (Kd.R_types HO332.out BK336.out (by decide)) (fun _ hk => hk.2) (.int .i64 t326)) (fun _ hk => hk.2) (.slice Ao30 t327.length co30)) (fun _ hk => hk.2) (.slice Ao31 t330.length co31)) (fun _ hk => hk.2) (.slice Ao32 t333.length co32)) (fun _ h_ => h_.1))) hb); have n5_ := Aside0.mk (Kd.R_below (by (with_reducible repeat (first | apply Kd.R_alloc | apply Kd.R_drewN | apply Kd.R_drew)); exact (Kd.R_mono (Kd.R_far (p := ⟨gb336, 3, none⟩) (Kd.R_far (p := ⟨gb336, 2, none⟩) (Kd.R_far (p := ⟨gb336, 1, none⟩) (Kd.R_far (p := ⟨gb336, 0, none⟩) (Kd.R_types HO335.out BK336.out (by decide)) (fun _ hk => hk.2) (.int .i64 t326)) (fun _ hk => hk.2) (.slice Ao30 t327.length co30)) (fun _ hk => hk.2) (.slice Ao31 t330.length co31)) (fun _ hk => hk.2) (.slice Ao32 t333.length co32)) (fun _ h_ => h_.1))) hb); have n6_ := Aside0.mk (blk_below (g := gb313) (o := .cells #[.int .i64 a0_0, .slice A0_1 l0_1.length c0_1, .slice A0_2 l0_2.length c0_2, .slice A0_3 l0_3.length c0_3] 25 (0, 0)) (by (with_reducible repeat (first | refine blk_drewN ?_ _ | refine blk_drew ?_ | refine blk_alloc ?_ _)); refine blk_far ?_ NB313_336.out _; (with_reducible repeat (first | refine blk_drewN ?_ _ | refine blk_drew ?_ | refine blk_alloc ?_ _)); refine blk_far ?_ NB313_336.out _; (with_reducible repeat (first | refine blk_drewN ?_ _ | refine blk_drew ?_ | refine blk_alloc ?_ _)); refine blk_far ?_ NB313_336.out _; (with_reducible repeat (first | refine blk_drewN ?_ _ | refine blk_drew ?_ | refine blk_alloc ?_ _)); refine blk_far ?_ NB313_336.out _; (with_reducible repeat (first | refine blk_drewN ?_ _ | refine blk_drew ?_ | refine blk_alloc ?_ _)); exact BK313.out) hb); have n7_ := Aside0.mk (blk_below (g := gb336) (o := .cells #[.int .i64 t326, .slice Ao30 t327.length co30, .slice Ao31 t330.length co31, .slice Ao32 t333.length co32] 28 (0, 0)) (by (with_reducible repeat (first | refine blk_drewN ?_ _ | refine blk_drew ?_ | refine blk_alloc ?_ _)); refine blk_put (cs := #[.int .i64 t326, .slice Ao30 t327.length co30, .slice Ao31 t330.length co31, .slice none 0 0]) ?_ 3 _ rfl; (with_reducible repeat (first | refine blk_drewN ?_ _ | refine blk_drew ?_ | refine blk_alloc ?_ _)); refine blk_put (cs := #[.int .i64 t326, .slice Ao30 t327.length co30, .slice none 0 0, .slice none 0 0]) ?_ 2 _ rfl; (with_reducible repeat (first | refine blk_drewN ?_ _ | refine blk_drew ?_ | refine blk_alloc ?_ _)); refine blk_put (cs := #[.int .i64 t326, .slice none 0 0, .slice none 0 0, .slice none 0 0]) ?_ 1 _ rfl; (with_reducible repeat (first | refine blk_drewN ?_ _ | refine blk_drew ?_ | refine blk_alloc ?_ _)); refine blk_put (cs := #[.int .i64 0, .slice none 0 0, .slice none 0 0, .slice none 0 0]) ?_ 0 _ rfl; (with_reducible repeat (first | refine blk_drewN ?_ _ | refine blk_drew ?_ | refine blk_alloc ?_ _)); exact BK336.out) hb); have n8_ := Aside0.mk (below_step (by repeat (first | (with_reducible first | exact HB.out | apply below_alloc | apply pw_below_drewN | apply below_drew1 | refine below_set ?_ GE313.out | refine below_set ?_ GE336.out) | exact HB.out)) hb); clear HO318; clear HO321; clear HO324; clear HO329; clear HO332; clear HO335; clear BK313; clear BK336; clear HB; have HO318 := n0_; have HO321 := n1_; have HO324 := n2_; have HO329 := n3_; have HO332 := n4_; have HO335 := n5_; have BK313 := n6_; have BK336 := n7_; have HB := n8_; clear n0_ n1_ n2_ n3_ n4_ n5_ n6_ n7_ n8_; (try clear hb); (try clear hb2); (try clear hk); (try clear hi)))
        have n0_ := Aside0.mk (Kd.R_drew HO318.out)
        have n1_ := Aside0.mk (Kd.R_drew HO321.out)
        have n2_ := Aside0.mk (Kd.R_drew HO324.out)
        have n3_ := Aside0.mk (Kd.R_drew HO329.out)
        have n4_ := Aside0.mk (Kd.R_drew HO332.out)
        have n5_ := Aside0.mk (Kd.R_drew HO335.out)
        have n6_ := Aside0.mk (blk_drew BK313.out)
        have n7_ := Aside0.mk (blk_drew BK336.out)
        have n8_ := Aside0.mk (below_drew1 HB.out)
        clear HO318
        clear HO321
        clear HO324
        clear HO329
        clear HO332
        clear HO335
        clear BK313
        clear BK336
        clear HB
        have HO318 := n0_
        have HO321 := n1_
        have HO324 := n2_
        have HO329 := n3_
        have HO332 := n4_
        have HO335 := n5_
        have BK313 := n6_
        have BK336 := n7_
        have HB := n8_
        clear n0_ n1_ n2_ n3_ n4_ n5_ n6_ n7_ n8_
        refine start_ (n := 5) (S := fun w' => w'.cell? ⟨gb336, 0, none⟩ = some (.int .i64 t326) ∧ w'.cell? ⟨gb336, 1, none⟩ = some (.slice Ao30 t327.length co30) ∧ w'.cell? ⟨gb336, 2, none⟩ = some (.slice Ao31 t330.length co31) ∧ w'.cell? ⟨gb336, 3, none⟩ = some (.slice Ao32 t333.length co32) ∧ w'.cell? ⟨gb313, 0, none⟩ = some (.int .i64 a0_0) ∧ w'.cell? ⟨gb313, 1, none⟩ = some (.slice A0_1 l0_1.length c0_1) ∧ w'.cell? ⟨gb313, 2, none⟩ = some (.slice A0_2 l0_2.length c0_2) ∧ w'.cell? ⟨gb313, 3, none⟩ = some (.slice A0_3 l0_3.length c0_3)) (ds := []) #[false, false, false, false, false] (by kernel_rfl) rfl rfl ⟨(blk_cell BK336.out 0).trans rfl, (blk_cell BK336.out 1).trans rfl, (blk_cell BK336.out 2).trans rfl, (blk_cell BK336.out 3).trans rfl, (blk_cell BK313.out 0).trans rfl, (blk_cell BK313.out 1).trans rfl, (blk_cell BK313.out 2).trans rfl, (blk_cell BK313.out 3).trans rfl⟩ (fun hHeld => ?_)
        generalize w33.drew = w34 at HO318 HO321 HO324 HO329 HO332 HO335 BK313 BK336 HB hHeld ⊢
        refine take_ (i := 0) (N := some 26) (v := ?_) (a' := ?_) #[true, false, false, false, false] rfl rfl (by kernel_rfl) (fun _ _ _ h => h) (Or.inl ⟨by rfl, ?_⟩) hHeld ?_ ?_
        rotate_left
        · rintro w' ⟨s0, s1, s2, s3, s4, s5, s6, s7⟩
          go_simp
          with_reducible rfl
        rotate_left
        · simp only [Act.put, List.setIfInBounds_toArray, List.set_cons_zero, List.set_cons_succ, i64_w, i32_w]
          rfl
        refine take_ (i := 1) (N := some 27) (v := ?_) (a' := ?_) #[true, true, false, false, false] rfl rfl (by kernel_rfl) (fun _ _ _ h => h) (Or.inl ⟨by rfl, ?_⟩) hHeld ?_ ?_
        rotate_left
        · rintro w' ⟨s0, s1, s2, s3, s4, s5, s6, s7⟩
          go_simp
          with_reducible rfl
        rotate_left
        · simp only [Act.put, List.setIfInBounds_toArray, List.set_cons_zero, List.set_cons_succ, i64_w, i32_w]
          rfl
        refine one_ (i := 2) (N := some 28) #[true, true, true, false, false] rfl rfl (by kernel_rfl) (by decide) (fun K hK => ?_)
        refine goes_ Try.func17 (by kernel_rfl) rfl #[.agg #[.int .i64 a0_0, .slice A0_1 l0_1.length c0_1, .slice A0_2 l0_2.length c0_2, .slice A0_3 l0_3.length c0_3]] (by rfl) rfl rfl (by (try simp only [List.map_toArray, List.map_cons, List.map_nil]); first | done | rfl | (simp only [List.length_drop, List.length_take]; rfl)) ?_
        with_reducible refine (laws_toSystem.calls k a0_0 _ _ l0_1 _ _ l0_2 _ _ l0_3 t338 t339 t342 t345 _ ?side1 ?side2 ?side3 ?side4 ?side5 ?side6 A13.out).mono ?_
        (case side1 => repeat (first | exact (Kd.C_below HR0_1.out HB.out) | (with_reducible refine Kd.C_alloc ?_ _) | (with_reducible refine Kd.C_drewN ?_ _) | (with_reducible refine Kd.C_drew ?_)))
        (case side2 => exact HC0_1.out)
        (case side3 => repeat (first | exact (Kd.C_below HR0_2.out HB.out) | (with_reducible refine Kd.C_alloc ?_ _) | (with_reducible refine Kd.C_drewN ?_ _) | (with_reducible refine Kd.C_drew ?_)))
        (case side4 => exact HC0_2.out)
        (case side5 => repeat (first | exact (Kd.C_below HR0_3.out HB.out) | (with_reducible refine Kd.C_alloc ?_ _) | (with_reducible refine Kd.C_drewN ?_ _) | (with_reducible refine Kd.C_drew ?_)))
        (case side6 => exact HC0_3.out)
        rintro e w35 ⟨v340, v343, v346, rfl, ho0, ho1, ho2, hb⟩
        refine ⟨_, rfl, ?_⟩
        have n0_ := Aside0.mk (Kd.R_mono (Kd.R_told (Kd.R_told (Kd.R_old (by (with_reducible repeat (first | apply Kd.R_alloc | apply Kd.R_drewN | apply Kd.R_drew)); exact HO318.out) hb) (Kd.R_base ho0)) (Kd.R_base ho1)) (fun _ h_ => h_.1))
        have n1_ := Aside0.mk (Kd.R_mono (Kd.R_told (Kd.R_told (Kd.R_old (by (with_reducible repeat (first | apply Kd.R_alloc | apply Kd.R_drewN | apply Kd.R_drew)); exact HO321.out) hb) (Kd.R_base ho0)) (Kd.R_base ho1)) (fun _ h_ => h_.1))
        have n2_ := Aside0.mk (Kd.R_elder' (by (with_reducible repeat (first | apply Kd.R_alloc | apply Kd.R_drewN | apply Kd.R_drew)); exact HO324.out) (Kd.R_base ho2) hb)
        have n3_ := Aside0.mk (Kd.R_mono (Kd.R_told (Kd.R_told (Kd.R_old (by (with_reducible repeat (first | apply Kd.R_alloc | apply Kd.R_drewN | apply Kd.R_drew)); exact HO329.out) hb) (Kd.R_base ho0)) (Kd.R_base ho1)) (fun _ h_ => h_.1))
        have n4_ := Aside0.mk (Kd.R_mono (Kd.R_told (Kd.R_told (Kd.R_old (by (with_reducible repeat (first | apply Kd.R_alloc | apply Kd.R_drewN | apply Kd.R_drew)); exact HO332.out) hb) (Kd.R_base ho0)) (Kd.R_base ho1)) (fun _ h_ => h_.1))
        have n5_ := Aside0.mk (Kd.R_elder' (by (with_reducible repeat (first | apply Kd.R_alloc | apply Kd.R_drewN | apply Kd.R_drew)); exact HO335.out) (Kd.R_base ho2) hb)
        have n6_ := Aside0.mk (Kd.R_lower (Kd.R_new' (Kd.R_new' (Kd.R_new' (Kd.R_new' ho0 (Kd.R_lt (by (with_reducible repeat (first | apply Kd.R_alloc | apply Kd.R_drewN | apply Kd.R_drew)); exact HO318.out))) (Kd.R_lt (by (with_reducible repeat (first | apply Kd.R_alloc | apply Kd.R_drewN | apply Kd.R_drew)); exact HO321.out))) (Kd.R_lt (by (with_reducible repeat (first | apply Kd.R_alloc | apply Kd.R_drewN | apply Kd.R_drew)); exact HO329.out))) (Kd.R_lt (by (with_reducible repeat (first | apply Kd.R_alloc | apply Kd.R_drewN | apply Kd.R_drew)); exact HO332.out))) (below_size (by repeat (first | (with_reducible first | exact HB.out | apply below_alloc | apply pw_below_drewN | apply below_drew1 | refine below_set ?_ GE313.out | refine below_set ?_ GE336.out) | exact HB.out))))
        have n7_ := Aside0.mk (Kd.R_lower (Kd.R_new' (Kd.R_new' (Kd.R_new' (Kd.R_new' ho1 (Kd.R_lt (by (with_reducible repeat (first | apply Kd.R_alloc | apply Kd.R_drewN | apply Kd.R_drew)); exact HO318.out))) (Kd.R_lt (by (with_reducible repeat (first | apply Kd.R_alloc | apply Kd.R_drewN | apply Kd.R_drew)); exact HO321.out))) (Kd.R_lt (by (with_reducible repeat (first | apply Kd.R_alloc | apply Kd.R_drewN | apply Kd.R_drew)); exact HO329.out))) (Kd.R_lt (by (with_reducible repeat (first | apply Kd.R_alloc | apply Kd.R_drewN | apply Kd.R_drew)); exact HO332.out))) (below_size (by repeat (first | (with_reducible first | exact HB.out | apply below_alloc | apply pw_below_drewN | apply below_drew1 | refine below_set ?_ GE313.out | refine below_set ?_ GE336.out) | exact HB.out))))
        have n8_ := Aside0.mk (Kd.R_lower (Kd.R_new' (Kd.R_new' ho2 (Kd.R_lt (by (with_reducible repeat (first | apply Kd.R_alloc | apply Kd.R_drewN | apply Kd.R_drew)); exact HO324.out))) (Kd.R_lt (by (with_reducible repeat (first | apply Kd.R_alloc | apply Kd.R_drewN | apply Kd.R_drew)); exact HO335.out))) (below_size (by repeat (first | (with_reducible first | exact HB.out | apply below_alloc | apply pw_below_drewN | apply below_drew1 | refine below_set ?_ GE313.out | refine below_set ?_ GE336.out) | exact HB.out))))
        have n9_ := Aside0.mk (blk_below (g := gb313) (o := .cells #[.int .i64 a0_0, .slice A0_1 l0_1.length c0_1, .slice A0_2 l0_2.length c0_2, .slice A0_3 l0_3.length c0_3] 25 (0, 0)) (by (with_reducible repeat (first | refine blk_drewN ?_ _ | refine blk_drew ?_ | refine blk_alloc ?_ _)); exact BK313.out) hb)
        have n10_ := Aside0.mk (blk_below (g := gb336) (o := .cells #[.int .i64 t326, .slice Ao30 t327.length co30, .slice Ao31 t330.length co31, .slice Ao32 t333.length co32] 28 (0, 0)) (by (with_reducible repeat (first | refine blk_drewN ?_ _ | refine blk_drew ?_ | refine blk_alloc ?_ _)); exact BK336.out) hb)
        have n11_ := Aside0.mk (below_step (by repeat (first | (with_reducible first | exact HB.out | apply below_alloc | apply pw_below_drewN | apply below_drew1 | refine below_set ?_ GE313.out | refine below_set ?_ GE336.out) | exact HB.out)) hb)
        clear HO318
        clear HO321
        clear HO324
        clear HO329
        clear HO332
        clear HO335
        clear BK313
        clear BK336
        clear HB
        have HO318 := n0_
        have HO321 := n1_
        have HO324 := n2_
        have HO329 := n3_
        have HO332 := n4_
        have HO335 := n5_
        have HO341 := n6_
        have HO344 := n7_
        have HO347 := n8_
        have BK313 := n9_
        have BK336 := n10_
        have HB := n11_
        clear n0_ n1_ n2_ n3_ n4_ n5_ n6_ n7_ n8_ n9_ n10_ n11_
        (try clear hb)
        (try clear hb2)
        (try clear hk)
        (try clear hi)
        (try clear ho0)
        (try clear ho1)
        (try clear ho2)
        obtain ⟨Ao36, co36, eo36⟩ := Kd.R_slice HO341.out
        (first | subst eo36 | (injection eo36 with f1_ f2_ f3_; have f4_ := f1_.symm; have f5_ := f3_.symm; clear f1_ f2_ f3_; subst f4_; subst f5_))
        obtain ⟨Ao37, co37, eo37⟩ := Kd.R_slice HO344.out
        (first | subst eo37 | (injection eo37 with f1_ f2_ f3_; have f4_ := f1_.symm; have f5_ := f3_.symm; clear f1_ f2_ f3_; subst f4_; subst f5_))
        obtain ⟨Ao38, co38, eo38⟩ := Kd.R_slice HO347.out
        (first | subst eo38 | (injection eo38 with f1_ f2_ f3_; have f4_ := f1_.symm; have f5_ := f3_.symm; clear f1_ f2_ f3_; subst f4_; subst f5_))
        refine hK.out _ _ ⟨(blk_cell BK336.out 0).trans rfl, (blk_cell BK336.out 1).trans rfl, (blk_cell BK336.out 2).trans rfl, (blk_cell BK336.out 3).trans rfl, (blk_cell BK313.out 0).trans rfl, (blk_cell BK313.out 1).trans rfl, (blk_cell BK313.out 2).trans rfl, (blk_cell BK313.out 3).trans rfl⟩ (fun hHeld => ?_)
        clear hK K
        refine norm_ (a' := ?_) ?_ ?_
        rotate_left
        · show Act.put _ (some 28) _ = _
          simp only [Act.put, List.setIfInBounds_toArray, List.set_cons_zero, List.set_cons_succ, i64_w, i32_w]
          rfl
        refine one_ (i := 3) (N := some 29) #[true, true, true, true, false] rfl rfl (by kernel_rfl) (by decide) (fun K hK => ?_)
        refine goes_ Try.func19 (by kernel_rfl) rfl #[.agg #[.int .i64 t326, .slice Ao30 t327.length co30, .slice Ao31 t330.length co31, .slice Ao32 t333.length co32], .agg #[.int .i64 t338, .slice Ao36 t339.length co36, .slice Ao37 t342.length co37, .slice Ao38 t345.length co38]] (by rfl) rfl rfl (by (try simp only [List.map_toArray, List.map_cons, List.map_nil]); first | done | rfl | (simp only [List.length_drop, List.length_take]; rfl)) ?_
        with_reducible refine (laws_eqSystem.calls k t326 _ _ t327 _ _ t330 _ _ t333 t338 _ _ t339 _ _ t342 _ _ t345 true _ ?side1 ?side2 ?side3 ?side4 ?side5 ?side6 ?side7 ?side8 ?side9 ?side10 ?side11 ?side12 A14.out).mono ?_
        (case side1 => repeat (first | exact (Kd.R_reads' HO329.out).2.2 | (with_reducible refine Kd.C_alloc ?_ _) | (with_reducible refine Kd.C_drewN ?_ _) | (with_reducible refine Kd.C_drew ?_)))
        (case side2 => exact (Kd.R_reads' HO329.out).2.1)
        (case side3 => repeat (first | exact (Kd.R_reads' HO332.out).2.2 | (with_reducible refine Kd.C_alloc ?_ _) | (with_reducible refine Kd.C_drewN ?_ _) | (with_reducible refine Kd.C_drew ?_)))
        (case side4 => exact (Kd.R_reads' HO332.out).2.1)
        (case side5 => repeat (first | exact (Kd.R_reads' HO335.out).2.2 | (with_reducible refine Kd.C_alloc ?_ _) | (with_reducible refine Kd.C_drewN ?_ _) | (with_reducible refine Kd.C_drew ?_)))
        (case side6 => exact (Kd.R_reads' HO335.out).2.1)
        (case side7 => repeat (first | exact (Kd.R_reads' HO341.out).2.2 | (with_reducible refine Kd.C_alloc ?_ _) | (with_reducible refine Kd.C_drewN ?_ _) | (with_reducible refine Kd.C_drew ?_)))
        (case side8 => exact (Kd.R_reads' HO341.out).2.1)
        (case side9 => repeat (first | exact (Kd.R_reads' HO344.out).2.2 | (with_reducible refine Kd.C_alloc ?_ _) | (with_reducible refine Kd.C_drewN ?_ _) | (with_reducible refine Kd.C_drew ?_)))
        (case side10 => exact (Kd.R_reads' HO344.out).2.1)
        (case side11 => repeat (first | exact (Kd.R_reads' HO347.out).2.2 | (with_reducible refine Kd.C_alloc ?_ _) | (with_reducible refine Kd.C_drewN ?_ _) | (with_reducible refine Kd.C_drew ?_)))
        (case side12 => exact (Kd.R_reads' HO347.out).2.1)
        rintro e w39 ⟨rfl, hb⟩
        refine ⟨_, rfl, ?_⟩
        have n0_ := Aside0.mk (Kd.R_below (by (with_reducible repeat (first | apply Kd.R_alloc | apply Kd.R_drewN | apply Kd.R_drew)); exact HO318.out) hb)
        have n1_ := Aside0.mk (Kd.R_below (by (with_reducible repeat (first | apply Kd.R_alloc | apply Kd.R_drewN | apply Kd.R_drew)); exact HO321.out) hb)
        have n2_ := Aside0.mk (Kd.R_below (by (with_reducible repeat (first | apply Kd.R_alloc | apply Kd.R_drewN | apply Kd.R_drew)); exact HO324.out) hb)
        have n3_ := Aside0.mk (Kd.R_below (by (with_reducible repeat (first | apply Kd.R_alloc | apply Kd.R_drewN | apply Kd.R_drew)); exact HO329.out) hb)
        have n4_ := Aside0.mk (Kd.R_below (by (with_reducible repeat (first | apply Kd.R_alloc | apply Kd.R_drewN | apply Kd.R_drew)); exact HO332.out) hb)
        have n5_ := Aside0.mk (Kd.R_below (by (with_reducible repeat (first | apply Kd.R_alloc | apply Kd.R_drewN | apply Kd.R_drew)); exact HO335.out) hb)
        have n6_ := Aside0.mk (Kd.R_below (by (with_reducible repeat (first | apply Kd.R_alloc | apply Kd.R_drewN | apply Kd.R_drew)); exact HO341.out) hb)
        have n7_ := Aside0.mk (Kd.R_below (by (with_reducible repeat (first | apply Kd.R_alloc | apply Kd.R_drewN | apply Kd.R_drew)); exact HO344.out) hb)
        have n8_ := Aside0.mk (Kd.R_below (by (with_reducible repeat (first | apply Kd.R_alloc | apply Kd.R_drewN | apply Kd.R_drew)); exact HO347.out) hb)
        have n9_ := Aside0.mk (blk_below (g := gb313) (o := .cells #[.int .i64 a0_0, .slice A0_1 l0_1.length c0_1, .slice A0_2 l0_2.length c0_2, .slice A0_3 l0_3.length c0_3] 25 (0, 0)) (by (with_reducible repeat (first | refine blk_drewN ?_ _ | refine blk_drew ?_ | refine blk_alloc ?_ _)); exact BK313.out) hb)
        have n10_ := Aside0.mk (blk_below (g := gb336) (o := .cells #[.int .i64 t326, .slice Ao30 t327.length co30, .slice Ao31 t330.length co31, .slice Ao32 t333.length co32] 28 (0, 0)) (by (with_reducible repeat (first | refine blk_drewN ?_ _ | refine blk_drew ?_ | refine blk_alloc ?_ _)); exact BK336.out) hb)
        have n11_ := Aside0.mk (below_step (by repeat (first | (with_reducible first | exact HB.out | apply below_alloc | apply pw_below_drewN | apply below_drew1 | refine below_set ?_ GE313.out | refine below_set ?_ GE336.out) | exact HB.out)) hb)
        clear HO318
        clear HO321
        clear HO324
        clear HO329
        clear HO332
        clear HO335
        clear HO341
        clear HO344
        clear HO347
        clear BK313
        clear BK336
        clear HB
        have HO318 := n0_
        have HO321 := n1_
        have HO324 := n2_
        have HO329 := n3_
        have HO332 := n4_
        have HO335 := n5_
        have HO341 := n6_
        have HO344 := n7_
        have HO347 := n8_
        have BK313 := n9_
        have BK336 := n10_
        have HB := n11_
        clear n0_ n1_ n2_ n3_ n4_ n5_ n6_ n7_ n8_ n9_ n10_ n11_
        (try clear hb)
        (try clear hb2)
        (try clear hk)
        (try clear hi)
        refine hK.out _ _ ⟨(blk_cell BK336.out 0).trans rfl, (blk_cell BK336.out 1).trans rfl, (blk_cell BK336.out 2).trans rfl, (blk_cell BK336.out 3).trans rfl, (blk_cell BK313.out 0).trans rfl, (blk_cell BK313.out 1).trans rfl, (blk_cell BK313.out 2).trans rfl, (blk_cell BK313.out 3).trans rfl⟩ (fun hHeld => ?_)
        clear hK K
        refine norm_ (a' := ?_) ?_ ?_
        rotate_left
        · show Act.put _ (some 29) _ = _
          simp only [Act.put, List.setIfInBounds_toArray, List.set_cons_zero, List.set_cons_succ, i64_w, i32_w]
          rfl
        refine pure_ (i := 4) (N := some 30) (v := ?_) (a' := ?_) #[true, true, true, true, true] rfl rfl (by kernel_rfl) (fun _ _ _ h => h) (Or.inl ⟨by rfl, ?_⟩) ?_ ?_
        rotate_left
        · intro w'
          go_simp
          with_reducible rfl
        rotate_left
        · simp only [Act.put, List.setIfInBounds_toArray, List.set_cons_zero, List.set_cons_succ, i64_w, i32_w]
          rfl
        refine done_ (by kernel_rfl) ?_
        try go_wp2
        go_ret
        exact ⟨by first | rfl | (simp [errW_none, errW_some] <;> rfl) | (simp [*, errW_none, errW_some] <;> rfl), by repeat (first | (with_reducible first | exact HB.out | apply below_alloc | apply pw_below_drewN | apply below_drew1 | refine below_set ?_ GE313.out | refine below_set ?_ GE336.out) | exact HB.out)⟩
      · replace c15 := Bool.eq_false_iff.mpr c15
        subst c15
        have H1 : (some false) = some r := by rw [if_neg (show ¬ (false = true) by decide)] at H; exact H
        clear H
        have H := H1
        clear H1
        obtain rfl := Option.some.inj H
        exact absurd hr_ (by decide)

def laws_FnExactIsGrade.Pure : Prop := ∀ (a0_0 : Int) (l0_1 : List Int) (l0_2 : List Int) (l0_3 : List Bool) (a1 : Int), (Lit.int .i64 a0_0).wf = true → ((∀ z ∈ l0_1, (Lit.int .i64 z).wf = true) ∧ l0_1.length ≤ maxLen) → ((∀ z ∈ l0_2, (Lit.int .i64 z).wf = true) ∧ l0_2.length ≤ maxLen) → ((∀ z ∈ l0_3, True) ∧ l0_3.length ≤ maxLen) → (Lit.int .i64 a1).wf = true → ∃ k, laws_FnExactIsGrade.f k a0_0 l0_1 l0_2 l0_3 a1 = some true

end Go.Proofs.Ythdbijjkcoafiaa.P
