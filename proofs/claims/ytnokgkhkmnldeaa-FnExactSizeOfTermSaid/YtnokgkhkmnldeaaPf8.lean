-- Printed by this session's own program (wip/tools/mkprint.py) out of the translation. Not trusted: Lean checks it.
import Derived.Test.YtnokgkhkmnldeaaP0
import Derived.Test.YtnokgkhkmnldeaaPf31
import Derived.Test.YtnokgkhkmnldeaaPf33
import Derived.Test.YtnokgkhkmnldeaaPf35
import Derived.Test.YtnokgkhkmnldeaaPf36
import Derived.Test.YtnokgkhkmnldeaaPf37
namespace Go.Proofs.Ytnokgkhkmnldeaa.P
open Go.RowKit Go.Proofs.YtnokgkhkmnldeaaW.PrintWords Go.Proofs.YtnokgkhkmnldeaaW.PrintLast Go.Proofs.YtnokgkhkmnldeaaW.PrintMore
attribute [local go_sem] max2_int min2_int max_two min_two max_three min_three max_four min_four   -- for this text's walks alone
set_option linter.unusedVariables false
set_option linter.unusedSimpArgs false

/-! ### laws_FnExactSizeOfTerm: function 8 -/
def laws_FnExactSizeOfTerm.f (k : Nat) (a0_0 : Int) (a0_1 : Int) (l0_2 : List Int) (l0_3 : List (S43)) : Option (Bool) := (laws_szTerm.f k a0_0 a0_1 l0_2 l0_3 1048576).bind fun t663 => (if t663 < 0 then (some true) else ((laws_toTerm.f k a0_0 a0_1 l0_2 l0_3).bind fun bt664 => ((spec_SizeOfTerm.f k bt664.1 bt664.2.1 bt664.2.2.1 bt664.2.2.2).bind fun t672 => ((laws_toTerm.f k a0_0 a0_1 l0_2 l0_3).bind fun bt673 => ((impl_SizeOfTerm.f k bt673.1 bt673.2.1 bt673.2.2.1 bt673.2.2.2).bind fun t682 => (if t682 = t672 then ((laws_toTerm.f k a0_0 a0_1 l0_2 l0_3).bind fun bt683 => ((laws_eqTerm.f k bt673.1 bt673.2.1 bt673.2.2.1 bt673.2.2.2 bt683.1 bt683.2.1 bt683.2.2.1 bt683.2.2.2).bind fun t691 => (if t691 = true then (some true) else (some false)))) else (some false)))))))
set_option maxHeartbeats 8000000 in
set_option maxRecDepth 100000 in
theorem laws_FnExactSizeOfTerm.calls (k : Nat) (a0_0 : Int) (a0_1 : Int) (A0_2 : Option Addr) (c0_2 : Nat) (l0_2 : List Int) (A0_3 : Option Addr) (c0_3 : Nat) (l0_3 : List (S43)) (r : Bool) (w : World) (hr0_2 : Kd.C (Kd.int .i64) w A0_2 l0_2.length l0_2) (hc0_2 : l0_2.length ≤ c0_2) (hr0_3 : Kd.C k43 w A0_3 l0_3.length l0_3) (hc0_3 : l0_3.length ≤ c0_3) (h : laws_FnExactSizeOfTerm.f k a0_0 a0_1 l0_2 l0_3 = some r) (hr_ : r = true) :
    Calls Try.prog 8 #[.agg #[.int .i64 a0_0, .int .i64 a0_1, .slice A0_2 l0_2.length c0_2, .slice A0_3 l0_3.length c0_3]] w fun e w' => e = .returned (.bool r) ∧ Below w.heap.size w w' := by
  have hu43 := Try.underlying43
  have hu48 := Try.underlying48
  have HR0_2 := Aside0.mk hr0_2
  have HC0_2 := Aside0.mk hc0_2
  clear hr0_2 hc0_2
  have HR0_3 := Aside0.mk hr0_3
  have HC0_3 := Aside0.mk hc0_3
  clear hr0_3 hc0_3
  have HB := Aside0.mk (Below.refl w.heap.size w)
  have H : ((laws_szTerm.f k a0_0 a0_1 l0_2 l0_3 1048576).bind fun t663 => (if t663 < 0 then (some true) else ((laws_toTerm.f k a0_0 a0_1 l0_2 l0_3).bind fun bt664 => ((spec_SizeOfTerm.f k bt664.1 bt664.2.1 bt664.2.2.1 bt664.2.2.2).bind fun t672 => ((laws_toTerm.f k a0_0 a0_1 l0_2 l0_3).bind fun bt673 => ((impl_SizeOfTerm.f k bt673.1 bt673.2.1 bt673.2.2.1 bt673.2.2.2).bind fun t682 => (if t682 = t672 then ((laws_toTerm.f k a0_0 a0_1 l0_2 l0_3).bind fun bt683 => ((laws_eqTerm.f k bt673.1 bt673.2.1 bt673.2.2.1 bt673.2.2.2 bt683.1 bt683.2.1 bt683.2.2.1 bt683.2.2.2).bind fun t691 => (if t691 = true then (some true) else (some false)))) else (some false)))))))) = some r := h
  clear h
  replace H := Option.bind_eq_some_iff.mp H
  obtain ⟨t663, A20, H⟩ := H
  replace H : (if t663 < 0 then (some true) else ((laws_toTerm.f k a0_0 a0_1 l0_2 l0_3).bind fun bt664 => ((spec_SizeOfTerm.f k bt664.1 bt664.2.1 bt664.2.2.1 bt664.2.2.2).bind fun t672 => ((laws_toTerm.f k a0_0 a0_1 l0_2 l0_3).bind fun bt673 => ((impl_SizeOfTerm.f k bt673.1 bt673.2.1 bt673.2.2.1 bt673.2.2.2).bind fun t682 => (if t682 = t672 then ((laws_toTerm.f k a0_0 a0_1 l0_2 l0_3).bind fun bt683 => ((laws_eqTerm.f k bt673.1 bt673.2.1 bt673.2.2.1 bt673.2.2.2 bt683.1 bt683.2.1 bt683.2.2.1 bt683.2.2.2).bind fun t691 => (if t691 = true then (some true) else (some false)))) else (some false))))))) = some r := H
  have A2 := Aside0.mk A20
  clear A20
  by_cases c3 : t663 < 0
  · rw [if_pos c3] at H
    have c3b0 : decide (t663 < 0) = true := decide_eq_true c3
    clear c3
    obtain rfl := Option.some.inj H
    go_enter Try.func8, Try.ntmps8
    go_wp2_with (first | ((with_reducible refine gate_dst (N := 1) rfl ?_); refine box_event ?hg (N := 1) ?hd (cs := #[.int .i64 a0_0, .int .i64 a0_1, .slice A0_2 l0_2.length c0_2, .slice A0_3 l0_3.length c0_3]) (t := 43) ?hr ?_; (case hd => rfl); (case hg => rfl); (case hr => first | (go_simp; done) | (go_simp; rfl)); intro gb662 hg w4 hbox hb; have n0_ := Aside0.mk (below_step (by repeat (first | (with_reducible first | exact HB.out | apply below_alloc | apply pw_below_drewN | apply below_drew1) | exact HB.out)) hb); have n1_ := Aside0.mk (hbox); have n2_ := Aside0.mk ((by rw [hg]; exact (below_size (by repeat (first | (with_reducible first | exact HB.out | apply below_alloc | apply pw_below_drewN | apply below_drew1) | exact HB.out))) : w.heap.size ≤ gb662)); have n3_ := Aside0.mk ((by rw [hg]; exact (below_size (by repeat (first | (with_reducible first | exact HB.out | apply below_alloc | apply pw_below_drewN | apply below_drew1) | exact HB.out))) : w.heap.size ≤ gb662)); clear HB; have HB := n0_; have BK662 := n1_; have GW662 := n2_; have GE662 := n3_; clear n0_ n1_ n2_ n3_; clear hb hbox hg; have hcz5_0 : w4.cell? ⟨gb662, 0, none⟩ = some (.int .i64 a0_0) := (blk_cell BK662.out 0).trans rfl; have hcz5_1 : w4.cell? ⟨gb662, 1, none⟩ = some (.int .i64 a0_1) := (blk_cell BK662.out 1).trans rfl; have hcz5_2 : w4.cell? ⟨gb662, 2, none⟩ = some (.slice A0_2 l0_2.length c0_2) := (blk_cell BK662.out 2).trans rfl; have hcz5_3 : w4.cell? ⟨gb662, 3, none⟩ = some (.slice A0_3 l0_3.length c0_3) := (blk_cell BK662.out 3).trans rfl; have hfz5_0 := blk_frozen BK662.out 0; have hfz5_1 := blk_frozen BK662.out 1; have hfz5_2 := blk_frozen BK662.out 2; have hfz5_3 := blk_frozen BK662.out 3) | ((with_reducible refine gate_callee (f := 31) rfl ?_); refine goesL_ (some 9) rfl rfl Try.func31 (by kernel_rfl) rfl #[.agg #[.int .i64 a0_0, .int .i64 a0_1, .slice A0_2 l0_2.length c0_2, .slice A0_3 l0_3.length c0_3], .int .i64 1048576] rfl (by (try simp only [List.map_toArray, List.map_cons, List.map_nil]); first | done | rfl | (simp only [List.length_drop, List.length_take]; rfl)) ?_; (with_reducible refine (laws_szTerm.calls k a0_0 a0_1 _ _ l0_2 _ _ l0_3 1048576 t663 _ ?side1 ?side2 ?side3 ?side4 A2.out).mono ?_); (case side1 => repeat (first | exact (Kd.C_below HR0_2.out HB.out) | (with_reducible refine Kd.C_alloc ?_ _) | (with_reducible refine Kd.C_drewN ?_ _) | (with_reducible refine Kd.C_drew ?_))); (case side2 => exact HC0_2.out); (case side3 => repeat (first | exact (Kd.C_below HR0_3.out HB.out) | (with_reducible refine Kd.C_alloc ?_ _) | (with_reducible refine Kd.C_drewN ?_ _) | (with_reducible refine Kd.C_drew ?_))); (case side4 => exact HC0_3.out); rintro e w6 ⟨rfl, hb⟩; refine ⟨_, rfl, ?_⟩; have n0_ := Aside0.mk (blk_below (g := gb662) (o := .cells #[.int .i64 a0_0, .int .i64 a0_1, .slice A0_2 l0_2.length c0_2, .slice A0_3 l0_3.length c0_3] 43 (0, 0)) (by (with_reducible repeat (first | refine blk_drewN ?_ _ | refine blk_drew ?_ | refine blk_alloc ?_ _)); exact BK662.out) hb); have n1_ := Aside0.mk (below_step (by repeat (first | (with_reducible first | exact HB.out | apply below_alloc | apply pw_below_drewN | apply below_drew1 | refine below_set ?_ GE662.out) | exact HB.out)) hb); clear BK662; clear HB; have BK662 := n0_; have HB := n1_; clear n0_ n1_; (try clear hb); (try clear hb2); (try clear hk); (try clear hi)))
    go_ret
    exact ⟨by first | rfl | (simp [errW_none, errW_some] <;> rfl) | (simp [*, errW_none, errW_some] <;> rfl), by repeat (first | (with_reducible first | exact HB.out | apply below_alloc | apply pw_below_drewN | apply below_drew1 | refine below_set ?_ GE662.out) | exact HB.out)⟩
  · rw [if_neg c3] at H
    have c3b0 : decide (t663 < 0) = false := decide_eq_false c3
    clear c3
    replace H := Option.bind_eq_some_iff.mp H
    obtain ⟨⟨t664, t665, t666, t669⟩, A70, H⟩ := H
    replace H : ((spec_SizeOfTerm.f k t664 t665 t666 t669).bind fun t672 => ((laws_toTerm.f k a0_0 a0_1 l0_2 l0_3).bind fun bt673 => ((impl_SizeOfTerm.f k bt673.1 bt673.2.1 bt673.2.2.1 bt673.2.2.2).bind fun t682 => (if t682 = t672 then ((laws_toTerm.f k a0_0 a0_1 l0_2 l0_3).bind fun bt683 => ((laws_eqTerm.f k bt673.1 bt673.2.1 bt673.2.2.1 bt673.2.2.2 bt683.1 bt683.2.1 bt683.2.2.1 bt683.2.2.2).bind fun t691 => (if t691 = true then (some true) else (some false)))) else (some false))))) = some r := H
    have A7 := Aside0.mk A70
    clear A70
    replace H := Option.bind_eq_some_iff.mp H
    obtain ⟨t672, A80, H⟩ := H
    replace H : ((laws_toTerm.f k a0_0 a0_1 l0_2 l0_3).bind fun bt673 => ((impl_SizeOfTerm.f k bt673.1 bt673.2.1 bt673.2.2.1 bt673.2.2.2).bind fun t682 => (if t682 = t672 then ((laws_toTerm.f k a0_0 a0_1 l0_2 l0_3).bind fun bt683 => ((laws_eqTerm.f k bt673.1 bt673.2.1 bt673.2.2.1 bt673.2.2.2 bt683.1 bt683.2.1 bt683.2.2.1 bt683.2.2.2).bind fun t691 => (if t691 = true then (some true) else (some false)))) else (some false)))) = some r := H
    have A8 := Aside0.mk A80
    clear A80
    replace H := Option.bind_eq_some_iff.mp H
    obtain ⟨⟨t673, t674, t675, t678⟩, A90, H⟩ := H
    replace H : ((impl_SizeOfTerm.f k t673 t674 t675 t678).bind fun t682 => (if t682 = t672 then ((laws_toTerm.f k a0_0 a0_1 l0_2 l0_3).bind fun bt683 => ((laws_eqTerm.f k t673 t674 t675 t678 bt683.1 bt683.2.1 bt683.2.2.1 bt683.2.2.2).bind fun t691 => (if t691 = true then (some true) else (some false)))) else (some false))) = some r := H
    have A9 := Aside0.mk A90
    clear A90
    replace H := Option.bind_eq_some_iff.mp H
    obtain ⟨t682, A100, H⟩ := H
    replace H : (if t682 = t672 then ((laws_toTerm.f k a0_0 a0_1 l0_2 l0_3).bind fun bt683 => ((laws_eqTerm.f k t673 t674 t675 t678 bt683.1 bt683.2.1 bt683.2.2.1 bt683.2.2.2).bind fun t691 => (if t691 = true then (some true) else (some false)))) else (some false)) = some r := H
    have A10 := Aside0.mk A100
    clear A100
    by_cases c11 : t682 = t672
    · rw [if_pos c11] at H
      have c11b0 : (t682 == t672) = true := beq_iff_eq.mpr c11
      have c11b1 : (t682 != t672) = false := bne_eq_false_iff_eq.mpr c11
      clear c11
      replace H := Option.bind_eq_some_iff.mp H
      obtain ⟨⟨t683, t684, t685, t688⟩, A120, H⟩ := H
      replace H : ((laws_eqTerm.f k t673 t674 t675 t678 t683 t684 t685 t688).bind fun t691 => (if t691 = true then (some true) else (some false))) = some r := H
      have A12 := Aside0.mk A120
      clear A120
      replace H := Option.bind_eq_some_iff.mp H
      obtain ⟨t691, A130, H⟩ := H
      replace H : (if t691 = true then (some true) else (some false)) = some r := H
      have A13 := Aside0.mk A130
      clear A130
      by_cases c14 : t691 = true
      · subst c14
        have H1 : (some true) = some r := by rw [if_pos rfl] at H; exact H
        clear H
        have H := H1
        clear H1
        obtain rfl := Option.some.inj H
        go_enter Try.func8, Try.ntmps8
        try go_wp2_with (first | ((with_reducible refine gate_dst (N := 1) rfl ?_); refine box_event ?hg (N := 1) ?hd (cs := #[.int .i64 a0_0, .int .i64 a0_1, .slice A0_2 l0_2.length c0_2, .slice A0_3 l0_3.length c0_3]) (t := 43) ?hr ?_; (case hd => rfl); (case hg => rfl); (case hr => first | (go_simp; done) | (go_simp; rfl)); intro gb662 hg w15 hbox hb; have n0_ := Aside0.mk (below_step (by repeat (first | (with_reducible first | exact HB.out | apply below_alloc | apply pw_below_drewN | apply below_drew1) | exact HB.out)) hb); have n1_ := Aside0.mk (hbox); have n2_ := Aside0.mk ((by rw [hg]; exact (below_size (by repeat (first | (with_reducible first | exact HB.out | apply below_alloc | apply pw_below_drewN | apply below_drew1) | exact HB.out))) : w.heap.size ≤ gb662)); have n3_ := Aside0.mk ((by rw [hg]; exact (below_size (by repeat (first | (with_reducible first | exact HB.out | apply below_alloc | apply pw_below_drewN | apply below_drew1) | exact HB.out))) : w.heap.size ≤ gb662)); clear HB; have HB := n0_; have BK662 := n1_; have GW662 := n2_; have GE662 := n3_; clear n0_ n1_ n2_ n3_; clear hb hbox hg; have hcz16_0 : w15.cell? ⟨gb662, 0, none⟩ = some (.int .i64 a0_0) := (blk_cell BK662.out 0).trans rfl; have hcz16_1 : w15.cell? ⟨gb662, 1, none⟩ = some (.int .i64 a0_1) := (blk_cell BK662.out 1).trans rfl; have hcz16_2 : w15.cell? ⟨gb662, 2, none⟩ = some (.slice A0_2 l0_2.length c0_2) := (blk_cell BK662.out 2).trans rfl; have hcz16_3 : w15.cell? ⟨gb662, 3, none⟩ = some (.slice A0_3 l0_3.length c0_3) := (blk_cell BK662.out 3).trans rfl; have hfz16_0 := blk_frozen BK662.out 0; have hfz16_1 := blk_frozen BK662.out 1; have hfz16_2 := blk_frozen BK662.out 2; have hfz16_3 := blk_frozen BK662.out 3) | ((with_reducible refine gate_callee (f := 31) rfl ?_); refine goesL_ (some 9) rfl rfl Try.func31 (by kernel_rfl) rfl #[.agg #[.int .i64 a0_0, .int .i64 a0_1, .slice A0_2 l0_2.length c0_2, .slice A0_3 l0_3.length c0_3], .int .i64 1048576] rfl (by (try simp only [List.map_toArray, List.map_cons, List.map_nil]); first | done | rfl | (simp only [List.length_drop, List.length_take]; rfl)) ?_; (with_reducible refine (laws_szTerm.calls k a0_0 a0_1 _ _ l0_2 _ _ l0_3 1048576 t663 _ ?side1 ?side2 ?side3 ?side4 A2.out).mono ?_); (case side1 => repeat (first | exact (Kd.C_below HR0_2.out HB.out) | (with_reducible refine Kd.C_alloc ?_ _) | (with_reducible refine Kd.C_drewN ?_ _) | (with_reducible refine Kd.C_drew ?_))); (case side2 => exact HC0_2.out); (case side3 => repeat (first | exact (Kd.C_below HR0_3.out HB.out) | (with_reducible refine Kd.C_alloc ?_ _) | (with_reducible refine Kd.C_drewN ?_ _) | (with_reducible refine Kd.C_drew ?_))); (case side4 => exact HC0_3.out); rintro e w17 ⟨rfl, hb⟩; refine ⟨_, rfl, ?_⟩; have n0_ := Aside0.mk (blk_below (g := gb662) (o := .cells #[.int .i64 a0_0, .int .i64 a0_1, .slice A0_2 l0_2.length c0_2, .slice A0_3 l0_3.length c0_3] 43 (0, 0)) (by (with_reducible repeat (first | refine blk_drewN ?_ _ | refine blk_drew ?_ | refine blk_alloc ?_ _)); exact BK662.out) hb); have n1_ := Aside0.mk (below_step (by repeat (first | (with_reducible first | exact HB.out | apply below_alloc | apply pw_below_drewN | apply below_drew1 | refine below_set ?_ GE662.out) | exact HB.out)) hb); clear BK662; clear HB; have BK662 := n0_; have HB := n1_; clear n0_ n1_; (try clear hb); (try clear hb2); (try clear hk); (try clear hi); have hcz18_0 : w17.cell? ⟨gb662, 0, none⟩ = some (.int .i64 a0_0) := (blk_cell BK662.out 0).trans rfl; have hcz18_1 : w17.cell? ⟨gb662, 1, none⟩ = some (.int .i64 a0_1) := (blk_cell BK662.out 1).trans rfl; have hcz18_2 : w17.cell? ⟨gb662, 2, none⟩ = some (.slice A0_2 l0_2.length c0_2) := (blk_cell BK662.out 2).trans rfl; have hcz18_3 : w17.cell? ⟨gb662, 3, none⟩ = some (.slice A0_3 l0_3.length c0_3) := (blk_cell BK662.out 3).trans rfl; have hfz18_0 := blk_frozen BK662.out 0; have hfz18_1 := blk_frozen BK662.out 1; have hfz18_2 := blk_frozen BK662.out 2; have hfz18_3 := blk_frozen BK662.out 3) | ((with_reducible refine gate_callee (f := 33) rfl ?_); refine goesL_ (some 13) rfl rfl Try.func33 (by kernel_rfl) rfl #[.agg #[.int .i64 a0_0, .int .i64 a0_1, .slice A0_2 l0_2.length c0_2, .slice A0_3 l0_3.length c0_3]] rfl (by (try simp only [List.map_toArray, List.map_cons, List.map_nil]); first | done | rfl | (simp only [List.length_drop, List.length_take]; rfl)) ?_; (with_reducible refine (laws_toTerm.calls k a0_0 a0_1 _ _ l0_2 _ _ l0_3 t664 t665 t666 t669 _ ?side1 ?side2 ?side3 ?side4 A7.out).mono ?_); (case side1 => repeat (first | exact (Kd.C_below HR0_2.out HB.out) | (with_reducible refine Kd.C_alloc ?_ _) | (with_reducible refine Kd.C_drewN ?_ _) | (with_reducible refine Kd.C_drew ?_))); (case side2 => exact HC0_2.out); (case side3 => repeat (first | exact (Kd.C_below HR0_3.out HB.out) | (with_reducible refine Kd.C_alloc ?_ _) | (with_reducible refine Kd.C_drewN ?_ _) | (with_reducible refine Kd.C_drew ?_))); (case side4 => exact HC0_3.out); rintro e w19 ⟨v667, v670, rfl, ho0, ho1, hb⟩; refine ⟨_, rfl, ?_⟩; have n0_ := Aside0.mk (Kd.R_lower ho0 (below_size (by repeat (first | (with_reducible first | exact HB.out | apply below_alloc | apply pw_below_drewN | apply below_drew1 | refine below_set ?_ GE662.out) | exact HB.out)))); have n1_ := Aside0.mk (Kd.R_lower ho1 (below_size (by repeat (first | (with_reducible first | exact HB.out | apply below_alloc | apply pw_below_drewN | apply below_drew1 | refine below_set ?_ GE662.out) | exact HB.out)))); have n2_ := Aside0.mk (blk_below (g := gb662) (o := .cells #[.int .i64 a0_0, .int .i64 a0_1, .slice A0_2 l0_2.length c0_2, .slice A0_3 l0_3.length c0_3] 43 (0, 0)) (by (with_reducible repeat (first | refine blk_drewN ?_ _ | refine blk_drew ?_ | refine blk_alloc ?_ _)); exact BK662.out) hb); have n3_ := Aside0.mk (below_step (by repeat (first | (with_reducible first | exact HB.out | apply below_alloc | apply pw_below_drewN | apply below_drew1 | refine below_set ?_ GE662.out) | exact HB.out)) hb); clear BK662; clear HB; have HO668 := n0_; have HO671 := n1_; have BK662 := n2_; have HB := n3_; clear n0_ n1_ n2_ n3_; (try clear hb); (try clear hb2); (try clear hk); (try clear hi); (try clear ho0); (try clear ho1); obtain ⟨Ao20, co20, eo20⟩ := Kd.R_slice HO668.out; subst eo20; obtain ⟨Ao21, co21, eo21⟩ := Kd.R_slice HO671.out; subst eo21) | ((with_reducible refine gate_callee (f := 36) rfl ?_); refine goesL_ (some 14) rfl rfl Try.func36 (by kernel_rfl) rfl #[.agg #[.int .i64 t664, .int .i64 t665, .slice Ao20 t666.length co20, .slice Ao21 t669.length co21]] rfl (by (try simp only [List.map_toArray, List.map_cons, List.map_nil]); first | done | rfl | (simp only [List.length_drop, List.length_take]; rfl)) ?_; (with_reducible refine (spec_SizeOfTerm.calls k t664 t665 _ _ t666 _ _ t669 t672 _ ?side1 ?side2 ?side3 ?side4 A8.out).mono ?_); (case side1 => repeat (first | exact (Kd.R_reads' HO668.out).2.2 | (with_reducible refine Kd.C_alloc ?_ _) | (with_reducible refine Kd.C_drewN ?_ _) | (with_reducible refine Kd.C_drew ?_))); (case side2 => exact (Kd.R_reads' HO668.out).2.1); (case side3 => repeat (first | exact (Kd.R_reads' HO671.out).2.2 | (with_reducible refine Kd.C_alloc ?_ _) | (with_reducible refine Kd.C_drewN ?_ _) | (with_reducible refine Kd.C_drew ?_))); (case side4 => exact (Kd.R_reads' HO671.out).2.1); rintro e w22 ⟨rfl, hb⟩; refine ⟨_, rfl, ?_⟩; have n0_ := Aside0.mk (Kd.R_below (by (with_reducible repeat (first | apply Kd.R_alloc | apply Kd.R_drewN | apply Kd.R_drew)); exact HO668.out) hb); have n1_ := Aside0.mk (Kd.R_below (by (with_reducible repeat (first | apply Kd.R_alloc | apply Kd.R_drewN | apply Kd.R_drew)); exact HO671.out) hb); have n2_ := Aside0.mk (blk_below (g := gb662) (o := .cells #[.int .i64 a0_0, .int .i64 a0_1, .slice A0_2 l0_2.length c0_2, .slice A0_3 l0_3.length c0_3] 43 (0, 0)) (by (with_reducible repeat (first | refine blk_drewN ?_ _ | refine blk_drew ?_ | refine blk_alloc ?_ _)); exact BK662.out) hb); have n3_ := Aside0.mk (below_step (by repeat (first | (with_reducible first | exact HB.out | apply below_alloc | apply pw_below_drewN | apply below_drew1 | refine below_set ?_ GE662.out) | exact HB.out)) hb); clear HO668; clear HO671; clear BK662; clear HB; have HO668 := n0_; have HO671 := n1_; have BK662 := n2_; have HB := n3_; clear n0_ n1_ n2_ n3_; (try clear hb); (try clear hb2); (try clear hk); (try clear hi); have hcz23_0 : w22.cell? ⟨gb662, 0, none⟩ = some (.int .i64 a0_0) := (blk_cell BK662.out 0).trans rfl; have hcz23_1 : w22.cell? ⟨gb662, 1, none⟩ = some (.int .i64 a0_1) := (blk_cell BK662.out 1).trans rfl; have hcz23_2 : w22.cell? ⟨gb662, 2, none⟩ = some (.slice A0_2 l0_2.length c0_2) := (blk_cell BK662.out 2).trans rfl; have hcz23_3 : w22.cell? ⟨gb662, 3, none⟩ = some (.slice A0_3 l0_3.length c0_3) := (blk_cell BK662.out 3).trans rfl; have hfz23_0 := blk_frozen BK662.out 0; have hfz23_1 := blk_frozen BK662.out 1; have hfz23_2 := blk_frozen BK662.out 2; have hfz23_3 := blk_frozen BK662.out 3) | ((with_reducible refine gate_callee (f := 33) rfl ?_); refine goesL_ (some 16) rfl rfl Try.func33 (by kernel_rfl) rfl #[.agg #[.int .i64 a0_0, .int .i64 a0_1, .slice A0_2 l0_2.length c0_2, .slice A0_3 l0_3.length c0_3]] rfl (by (try simp only [List.map_toArray, List.map_cons, List.map_nil]); first | done | rfl | (simp only [List.length_drop, List.length_take]; rfl)) ?_; (with_reducible refine (laws_toTerm.calls k a0_0 a0_1 _ _ l0_2 _ _ l0_3 t673 t674 t675 t678 _ ?side1 ?side2 ?side3 ?side4 A9.out).mono ?_); (case side1 => repeat (first | exact (Kd.C_below HR0_2.out HB.out) | (with_reducible refine Kd.C_alloc ?_ _) | (with_reducible refine Kd.C_drewN ?_ _) | (with_reducible refine Kd.C_drew ?_))); (case side2 => exact HC0_2.out); (case side3 => repeat (first | exact (Kd.C_below HR0_3.out HB.out) | (with_reducible refine Kd.C_alloc ?_ _) | (with_reducible refine Kd.C_drewN ?_ _) | (with_reducible refine Kd.C_drew ?_))); (case side4 => exact HC0_3.out); rintro e w24 ⟨v676, v679, rfl, ho0, ho1, hb⟩; refine ⟨_, rfl, ?_⟩; have n0_ := Aside0.mk (Kd.R_elder' (by (with_reducible repeat (first | apply Kd.R_alloc | apply Kd.R_drewN | apply Kd.R_drew)); exact HO668.out) (Kd.R_base ho0) hb); have n1_ := Aside0.mk (Kd.R_mono (Kd.R_told (Kd.R_told (Kd.R_old (by (with_reducible repeat (first | apply Kd.R_alloc | apply Kd.R_drewN | apply Kd.R_drew)); exact HO671.out) hb) (Kd.R_base ho0)) (Kd.R_base ho1)) (fun _ h_ => h_.1)); have n2_ := Aside0.mk (Kd.R_lower (Kd.R_new' ho0 (Kd.R_lt (by (with_reducible repeat (first | apply Kd.R_alloc | apply Kd.R_drewN | apply Kd.R_drew)); exact HO668.out))) (below_size (by repeat (first | (with_reducible first | exact HB.out | apply below_alloc | apply pw_below_drewN | apply below_drew1 | refine below_set ?_ GE662.out) | exact HB.out)))); have n3_ := Aside0.mk (Kd.R_lower (Kd.R_new' (Kd.R_new' ho1 (Kd.R_lt (by (with_reducible repeat (first | apply Kd.R_alloc | apply Kd.R_drewN | apply Kd.R_drew)); exact HO668.out))) (Kd.R_lt (by (with_reducible repeat (first | apply Kd.R_alloc | apply Kd.R_drewN | apply Kd.R_drew)); exact HO671.out))) (below_size (by repeat (first | (with_reducible first | exact HB.out | apply below_alloc | apply pw_below_drewN | apply below_drew1 | refine below_set ?_ GE662.out) | exact HB.out)))); have n4_ := Aside0.mk (blk_below (g := gb662) (o := .cells #[.int .i64 a0_0, .int .i64 a0_1, .slice A0_2 l0_2.length c0_2, .slice A0_3 l0_3.length c0_3] 43 (0, 0)) (by (with_reducible repeat (first | refine blk_drewN ?_ _ | refine blk_drew ?_ | refine blk_alloc ?_ _)); exact BK662.out) hb); have n5_ := Aside0.mk (below_step (by repeat (first | (with_reducible first | exact HB.out | apply below_alloc | apply pw_below_drewN | apply below_drew1 | refine below_set ?_ GE662.out) | exact HB.out)) hb); clear HO668; clear HO671; clear BK662; clear HB; have HO668 := n0_; have HO671 := n1_; have HO677 := n2_; have HO680 := n3_; have BK662 := n4_; have HB := n5_; clear n0_ n1_ n2_ n3_ n4_ n5_; (try clear hb); (try clear hb2); (try clear hk); (try clear hi); (try clear ho0); (try clear ho1)) | ((with_reducible refine gate_dst (N := 5) rfl ?_); refine box_event ?hg (N := 5) ?hd (cs := #[.int .i64 0, .int .i64 0, .slice none 0 0, .slice none 0 0]) (t := 48) ?hr ?_; (case hd => rfl); (case hg => rfl); (case hr => first | (go_simp; done) | (go_simp; rfl)); intro gb681 hg w25 hbox hb; have n0_ := Aside0.mk (Kd.R_below (by (with_reducible repeat (first | apply Kd.R_alloc | apply Kd.R_drewN | apply Kd.R_drew)); exact HO668.out) hb); have n1_ := Aside0.mk (Kd.R_below (Kd.R_elderB (by (with_reducible repeat (first | apply Kd.R_alloc | apply Kd.R_drewN | apply Kd.R_drew)); exact HO671.out) gb681 (Nat.le_of_eq hg.symm)) hb); have n2_ := Aside0.mk (Kd.R_below (by (with_reducible repeat (first | apply Kd.R_alloc | apply Kd.R_drewN | apply Kd.R_drew)); exact HO677.out) hb); have n3_ := Aside0.mk (Kd.R_below (Kd.R_elderB (by (with_reducible repeat (first | apply Kd.R_alloc | apply Kd.R_drewN | apply Kd.R_drew)); exact HO680.out) gb681 (Nat.le_of_eq hg.symm)) hb); have n4_ := Aside0.mk (blk_below (g := gb662) (o := .cells #[.int .i64 a0_0, .int .i64 a0_1, .slice A0_2 l0_2.length c0_2, .slice A0_3 l0_3.length c0_3] 43 (0, 0)) (by (with_reducible repeat (first | refine blk_drewN ?_ _ | refine blk_drew ?_ | refine blk_alloc ?_ _)); exact BK662.out) hb); have n5_ := Aside0.mk (below_step (by repeat (first | (with_reducible first | exact HB.out | apply below_alloc | apply pw_below_drewN | apply below_drew1 | refine below_set ?_ GE662.out) | exact HB.out)) hb); have n6_ := Aside0.mk (hbox); have n7_ := Aside0.mk ((by rw [hg]; exact (below_size (by repeat (first | (with_reducible first | exact HB.out | apply below_alloc | apply pw_below_drewN | apply below_drew1 | refine below_set ?_ GE662.out) | exact HB.out))) : w.heap.size ≤ gb681)); have n8_ := Aside0.mk ((by rw [hg]; exact (below_size (by repeat (first | (with_reducible first | exact HB.out | apply below_alloc | apply pw_below_drewN | apply below_drew1 | refine below_set ?_ GE662.out) | exact HB.out))) : w.heap.size ≤ gb681)); have n9_ := Aside0.mk ((by rw [hg]; exact Nat.ne_of_lt (blk_lt (g := gb662) (o := .cells #[.int .i64 a0_0, .int .i64 a0_1, .slice A0_2 l0_2.length c0_2, .slice A0_3 l0_3.length c0_3] 43 (0, 0)) (by (with_reducible repeat (first | refine blk_drewN ?_ _ | refine blk_drew ?_ | refine blk_alloc ?_ _)); exact BK662.out)) : gb662 ≠ gb681)); have n10_ := Aside0.mk ((by rw [hg]; exact Nat.ne_of_gt (blk_lt (g := gb662) (o := .cells #[.int .i64 a0_0, .int .i64 a0_1, .slice A0_2 l0_2.length c0_2, .slice A0_3 l0_3.length c0_3] 43 (0, 0)) (by (with_reducible repeat (first | refine blk_drewN ?_ _ | refine blk_drew ?_ | refine blk_alloc ?_ _)); exact BK662.out)) : gb681 ≠ gb662)); clear HO668; clear HO671; clear HO677; clear HO680; clear BK662; clear HB; have HO668 := n0_; have HO671 := n1_; have HO677 := n2_; have HO680 := n3_; have BK662 := n4_; have HB := n5_; have BK681 := n6_; have GW681 := n7_; have GE681 := n8_; have NB662_681 := n9_; have NB681_662 := n10_; clear n0_ n1_ n2_ n3_ n4_ n5_ n6_ n7_ n8_ n9_ n10_; clear hb hbox hg; have hnb26 := NB681_662.out; have hnc26 := NB662_681.out; have hcz27_0 : w25.cell? ⟨gb681, 0, none⟩ = some (.int .i64 0) := (blk_cell BK681.out 0).trans rfl; have hcz27_1 : w25.cell? ⟨gb681, 1, none⟩ = some (.int .i64 0) := (blk_cell BK681.out 1).trans rfl; have hcz27_2 : w25.cell? ⟨gb681, 2, none⟩ = some (.slice none 0 0) := (blk_cell BK681.out 2).trans rfl; have hcz27_3 : w25.cell? ⟨gb681, 3, none⟩ = some (.slice none 0 0) := (blk_cell BK681.out 3).trans rfl; have hfz27_0 := blk_frozen BK681.out 0; have hfz27_1 := blk_frozen BK681.out 1; have hfz27_2 := blk_frozen BK681.out 2; have hfz27_3 := blk_frozen BK681.out 3; obtain ⟨Ao28, co28, eo28⟩ := Kd.R_slice HO677.out; subst eo28; obtain ⟨Ao29, co29, eo29⟩ := Kd.R_slice HO680.out; subst eo29) | ((with_reducible refine gate_callee (f := 37) rfl ?_); refine goesL_ (some 18) rfl rfl Try.func37 (by kernel_rfl) rfl #[.agg #[.int .i64 t673, .int .i64 t674, .slice Ao28 t675.length co28, .slice Ao29 t678.length co29]] rfl (by (try simp only [List.map_toArray, List.map_cons, List.map_nil]); first | done | rfl | (simp only [List.length_drop, List.length_take]; rfl)) ?_; (with_reducible refine (impl_SizeOfTerm.calls k t673 t674 _ _ t675 _ _ t678 t682 _ ?side1 ?side2 ?side3 ?side4 A10.out).mono ?_); (case side1 => refine (Kd.R_reads' (e := 3) (base := w.heap.size) (ok := fun k_ => (True ∧ some k_ ≠ (.slice Ao20 t666.length co20 : Value).ownBlock)) (n := t675.length) (c := co28) ?_).2.2; exact (by (with_reducible repeat (first | apply Kd.R_alloc | apply Kd.R_drewN | apply Kd.R_drew)); exact (Kd.R_mono (Kd.R_far (p := ⟨gb681, 3, none⟩) (Kd.R_far (p := ⟨gb681, 2, none⟩) (Kd.R_far (p := ⟨gb681, 1, none⟩) (Kd.R_far (p := ⟨gb681, 0, none⟩) (Kd.R_types HO677.out BK681.out (by decide)) (fun _ hk => hk.2) (.int .i64 t673)) (fun _ hk => hk.2) (.int .i64 t674)) (fun _ hk => hk.2) (.slice Ao28 t675.length co28)) (fun _ hk => hk.2) (.slice Ao29 t678.length co29)) (fun _ h_ => h_.1)))); (case side2 => exact (Kd.R_reads' HO677.out).2.1); (case side3 => refine (Kd.R_reads' (e := 48) (base := w.heap.size) (ok := fun k_ => (((some k_ ≠ (.slice Ao28 t675.length co28 : Value).ownBlock ∧ some k_ ≠ (.slice Ao20 t666.length co20 : Value).ownBlock) ∧ some k_ ≠ (.slice Ao21 t669.length co21 : Value).ownBlock) ∧ k_ ≠ gb681)) (n := t678.length) (c := co29) ?_).2.2; exact (by (with_reducible repeat (first | apply Kd.R_alloc | apply Kd.R_drewN | apply Kd.R_drew)); exact (Kd.R_mono (Kd.R_far (p := ⟨gb681, 3, none⟩) (Kd.R_far (p := ⟨gb681, 2, none⟩) (Kd.R_far (p := ⟨gb681, 1, none⟩) (Kd.R_far (p := ⟨gb681, 0, none⟩) (Kd.R_mono HO680.out (fun k_ hk => (⟨hk, hk.2⟩ : _ ∧ k_ ≠ gb681))) (fun _ hk => hk.2) (.int .i64 t673)) (fun _ hk => hk.2) (.int .i64 t674)) (fun _ hk => hk.2) (.slice Ao28 t675.length co28)) (fun _ hk => hk.2) (.slice Ao29 t678.length co29)) (fun _ h_ => h_.1)))); (case side4 => exact (Kd.R_reads' HO680.out).2.1); rintro e w30 ⟨rfl, hb⟩; refine ⟨_, rfl, ?_⟩; have n0_ := Aside0.mk (Kd.R_below (by (with_reducible repeat (first | apply Kd.R_alloc | apply Kd.R_drewN | apply Kd.R_drew)); exact (Kd.R_mono (Kd.R_far (p := ⟨gb681, 3, none⟩) (Kd.R_far (p := ⟨gb681, 2, none⟩) (Kd.R_far (p := ⟨gb681, 1, none⟩) (Kd.R_far (p := ⟨gb681, 0, none⟩) (Kd.R_types HO668.out BK681.out (by decide)) (fun _ hk => hk.2) (.int .i64 t673)) (fun _ hk => hk.2) (.int .i64 t674)) (fun _ hk => hk.2) (.slice Ao28 t675.length co28)) (fun _ hk => hk.2) (.slice Ao29 t678.length co29)) (fun _ h_ => h_.1))) hb); have n1_ := Aside0.mk (Kd.R_below (by (with_reducible repeat (first | apply Kd.R_alloc | apply Kd.R_drewN | apply Kd.R_drew)); exact (Kd.R_mono (Kd.R_far (p := ⟨gb681, 3, none⟩) (Kd.R_far (p := ⟨gb681, 2, none⟩) (Kd.R_far (p := ⟨gb681, 1, none⟩) (Kd.R_far (p := ⟨gb681, 0, none⟩) (Kd.R_mono HO671.out (fun k_ hk => (⟨hk, hk.2⟩ : _ ∧ k_ ≠ gb681))) (fun _ hk => hk.2) (.int .i64 t673)) (fun _ hk => hk.2) (.int .i64 t674)) (fun _ hk => hk.2) (.slice Ao28 t675.length co28)) (fun _ hk => hk.2) (.slice Ao29 t678.length co29)) (fun _ h_ => h_.1))) hb); have n2_ := Aside0.mk (Kd.R_below (by (with_reducible repeat (first | apply Kd.R_alloc | apply Kd.R_drewN | apply Kd.R_drew)); exact (Kd.R_mono (Kd.R_far (p := ⟨gb681, 3, none⟩) (Kd.R_far (p := ⟨gb681, 2, none⟩) (Kd.R_far (p := ⟨gb681, 1, none⟩) (Kd.R_far (p := ⟨gb681, 0, none⟩) (Kd.R_types HO677.out BK681.out (by decide)) (fun _ hk => hk.2) (.int .i64 t673)) (fun _ hk => hk.2) (.int .i64 t674)) (fun _ hk => hk.2) (.slice Ao28 t675.length co28)) (fun _ hk => hk.2) (.slice Ao29 t678.length co29)) (fun _ h_ => h_.1))) hb); have n3_ := Aside0.mk (Kd.R_below (by (with_reducible repeat (first | apply Kd.R_alloc | apply Kd.R_drewN | apply Kd.R_drew)); exact (Kd.R_mono (Kd.R_far (p := ⟨gb681, 3, none⟩) (Kd.R_far (p := ⟨gb681, 2, none⟩) (Kd.R_far (p := ⟨gb681, 1, none⟩) (Kd.R_far (p := ⟨gb681, 0, none⟩) (Kd.R_mono HO680.out (fun k_ hk => (⟨hk, hk.2⟩ : _ ∧ k_ ≠ gb681))) (fun _ hk => hk.2) (.int .i64 t673)) (fun _ hk => hk.2) (.int .i64 t674)) (fun _ hk => hk.2) (.slice Ao28 t675.length co28)) (fun _ hk => hk.2) (.slice Ao29 t678.length co29)) (fun _ h_ => h_.1))) hb); have n4_ := Aside0.mk (blk_below (g := gb662) (o := .cells #[.int .i64 a0_0, .int .i64 a0_1, .slice A0_2 l0_2.length c0_2, .slice A0_3 l0_3.length c0_3] 43 (0, 0)) (by (with_reducible repeat (first | refine blk_drewN ?_ _ | refine blk_drew ?_ | refine blk_alloc ?_ _)); refine blk_far ?_ NB662_681.out _; (with_reducible repeat (first | refine blk_drewN ?_ _ | refine blk_drew ?_ | refine blk_alloc ?_ _)); refine blk_far ?_ NB662_681.out _; (with_reducible repeat (first | refine blk_drewN ?_ _ | refine blk_drew ?_ | refine blk_alloc ?_ _)); refine blk_far ?_ NB662_681.out _; (with_reducible repeat (first | refine blk_drewN ?_ _ | refine blk_drew ?_ | refine blk_alloc ?_ _)); refine blk_far ?_ NB662_681.out _; (with_reducible repeat (first | refine blk_drewN ?_ _ | refine blk_drew ?_ | refine blk_alloc ?_ _)); exact BK662.out) hb); have n5_ := Aside0.mk (blk_below (g := gb681) (o := .cells #[.int .i64 t673, .int .i64 t674, .slice Ao28 t675.length co28, .slice Ao29 t678.length co29] 48 (0, 0)) (by (with_reducible repeat (first | refine blk_drewN ?_ _ | refine blk_drew ?_ | refine blk_alloc ?_ _)); refine blk_put (cs := #[.int .i64 t673, .int .i64 t674, .slice Ao28 t675.length co28, .slice none 0 0]) ?_ 3 _ rfl; (with_reducible repeat (first | refine blk_drewN ?_ _ | refine blk_drew ?_ | refine blk_alloc ?_ _)); refine blk_put (cs := #[.int .i64 t673, .int .i64 t674, .slice none 0 0, .slice none 0 0]) ?_ 2 _ rfl; (with_reducible repeat (first | refine blk_drewN ?_ _ | refine blk_drew ?_ | refine blk_alloc ?_ _)); refine blk_put (cs := #[.int .i64 t673, .int .i64 0, .slice none 0 0, .slice none 0 0]) ?_ 1 _ rfl; (with_reducible repeat (first | refine blk_drewN ?_ _ | refine blk_drew ?_ | refine blk_alloc ?_ _)); refine blk_put (cs := #[.int .i64 0, .int .i64 0, .slice none 0 0, .slice none 0 0]) ?_ 0 _ rfl; (with_reducible repeat (first | refine blk_drewN ?_ _ | refine blk_drew ?_ | refine blk_alloc ?_ _)); exact BK681.out) hb); have n6_ := Aside0.mk (below_step (by repeat (first | (with_reducible first | exact HB.out | apply below_alloc | apply pw_below_drewN | apply below_drew1 | refine below_set ?_ GE662.out | refine below_set ?_ GE681.out) | exact HB.out)) hb); clear HO668; clear HO671; clear HO677; clear HO680; clear BK662; clear BK681; clear HB; have HO668 := n0_; have HO671 := n1_; have HO677 := n2_; have HO680 := n3_; have BK662 := n4_; have BK681 := n5_; have HB := n6_; clear n0_ n1_ n2_ n3_ n4_ n5_ n6_; (try clear hb); (try clear hb2); (try clear hk); (try clear hi)))
        have n0_ := Aside0.mk (Kd.R_drew HO668.out)
        have n1_ := Aside0.mk (Kd.R_drew HO671.out)
        have n2_ := Aside0.mk (Kd.R_drew HO677.out)
        have n3_ := Aside0.mk (Kd.R_drew HO680.out)
        have n4_ := Aside0.mk (blk_drew BK662.out)
        have n5_ := Aside0.mk (blk_drew BK681.out)
        have n6_ := Aside0.mk (below_drew1 HB.out)
        clear HO668
        clear HO671
        clear HO677
        clear HO680
        clear BK662
        clear BK681
        clear HB
        have HO668 := n0_
        have HO671 := n1_
        have HO677 := n2_
        have HO680 := n3_
        have BK662 := n4_
        have BK681 := n5_
        have HB := n6_
        clear n0_ n1_ n2_ n3_ n4_ n5_ n6_
        refine start_ (n := 5) (S := fun w' => w'.cell? ⟨gb681, 0, none⟩ = some (.int .i64 t673) ∧ w'.cell? ⟨gb681, 1, none⟩ = some (.int .i64 t674) ∧ w'.cell? ⟨gb681, 2, none⟩ = some (.slice Ao28 t675.length co28) ∧ w'.cell? ⟨gb681, 3, none⟩ = some (.slice Ao29 t678.length co29) ∧ w'.cell? ⟨gb662, 0, none⟩ = some (.int .i64 a0_0) ∧ w'.cell? ⟨gb662, 1, none⟩ = some (.int .i64 a0_1) ∧ w'.cell? ⟨gb662, 2, none⟩ = some (.slice A0_2 l0_2.length c0_2) ∧ w'.cell? ⟨gb662, 3, none⟩ = some (.slice A0_3 l0_3.length c0_3)) (ds := []) #[false, false, false, false, false] (by kernel_rfl) rfl rfl ⟨(blk_cell BK681.out 0).trans rfl, (blk_cell BK681.out 1).trans rfl, (blk_cell BK681.out 2).trans rfl, (blk_cell BK681.out 3).trans rfl, (blk_cell BK662.out 0).trans rfl, (blk_cell BK662.out 1).trans rfl, (blk_cell BK662.out 2).trans rfl, (blk_cell BK662.out 3).trans rfl⟩ (fun hHeld => ?_)
        generalize w30.drew = w31 at HO668 HO671 HO677 HO680 BK662 BK681 HB hHeld ⊢
        refine take_ (i := 0) (N := some 22) (v := ?_) (a' := ?_) #[true, false, false, false, false] rfl rfl (by kernel_rfl) (fun _ _ _ h => h) (Or.inl ⟨by rfl, ?_⟩) hHeld ?_ ?_
        rotate_left
        · rintro w' ⟨s0, s1, s2, s3, s4, s5, s6, s7⟩
          go_simp
          with_reducible rfl
        rotate_left
        · simp only [Act.put, List.setIfInBounds_toArray, List.set_cons_zero, List.set_cons_succ, i64_w, i32_w]
          rfl
        refine take_ (i := 1) (N := some 23) (v := ?_) (a' := ?_) #[true, true, false, false, false] rfl rfl (by kernel_rfl) (fun _ _ _ h => h) (Or.inl ⟨by rfl, ?_⟩) hHeld ?_ ?_
        rotate_left
        · rintro w' ⟨s0, s1, s2, s3, s4, s5, s6, s7⟩
          go_simp
          with_reducible rfl
        rotate_left
        · simp only [Act.put, List.setIfInBounds_toArray, List.set_cons_zero, List.set_cons_succ, i64_w, i32_w]
          rfl
        refine one_ (i := 2) (N := some 24) #[true, true, true, false, false] rfl rfl (by kernel_rfl) (by decide) (fun K hK => ?_)
        refine goes_ Try.func33 (by kernel_rfl) rfl #[.agg #[.int .i64 a0_0, .int .i64 a0_1, .slice A0_2 l0_2.length c0_2, .slice A0_3 l0_3.length c0_3]] (by rfl) rfl rfl (by (try simp only [List.map_toArray, List.map_cons, List.map_nil]); first | done | rfl | (simp only [List.length_drop, List.length_take]; rfl)) ?_
        with_reducible refine (laws_toTerm.calls k a0_0 a0_1 _ _ l0_2 _ _ l0_3 t683 t684 t685 t688 _ ?side1 ?side2 ?side3 ?side4 A12.out).mono ?_
        (case side1 => repeat (first | exact (Kd.C_below HR0_2.out HB.out) | (with_reducible refine Kd.C_alloc ?_ _) | (with_reducible refine Kd.C_drewN ?_ _) | (with_reducible refine Kd.C_drew ?_)))
        (case side2 => exact HC0_2.out)
        (case side3 => repeat (first | exact (Kd.C_below HR0_3.out HB.out) | (with_reducible refine Kd.C_alloc ?_ _) | (with_reducible refine Kd.C_drewN ?_ _) | (with_reducible refine Kd.C_drew ?_)))
        (case side4 => exact HC0_3.out)
        rintro e w32 ⟨v686, v689, rfl, ho0, ho1, hb⟩
        refine ⟨_, rfl, ?_⟩
        have n0_ := Aside0.mk (Kd.R_elder' (by (with_reducible repeat (first | apply Kd.R_alloc | apply Kd.R_drewN | apply Kd.R_drew)); exact HO668.out) (Kd.R_base ho0) hb)
        have n1_ := Aside0.mk (Kd.R_mono (Kd.R_told (Kd.R_told (Kd.R_old (by (with_reducible repeat (first | apply Kd.R_alloc | apply Kd.R_drewN | apply Kd.R_drew)); exact HO671.out) hb) (Kd.R_base ho0)) (Kd.R_base ho1)) (fun _ h_ => h_.1))
        have n2_ := Aside0.mk (Kd.R_elder' (by (with_reducible repeat (first | apply Kd.R_alloc | apply Kd.R_drewN | apply Kd.R_drew)); exact HO677.out) (Kd.R_base ho0) hb)
        have n3_ := Aside0.mk (Kd.R_mono (Kd.R_told (Kd.R_told (Kd.R_old (by (with_reducible repeat (first | apply Kd.R_alloc | apply Kd.R_drewN | apply Kd.R_drew)); exact HO680.out) hb) (Kd.R_base ho0)) (Kd.R_base ho1)) (fun _ h_ => h_.1))
        have n4_ := Aside0.mk (Kd.R_lower (Kd.R_new' (Kd.R_new' ho0 (Kd.R_lt (by (with_reducible repeat (first | apply Kd.R_alloc | apply Kd.R_drewN | apply Kd.R_drew)); exact HO668.out))) (Kd.R_lt (by (with_reducible repeat (first | apply Kd.R_alloc | apply Kd.R_drewN | apply Kd.R_drew)); exact HO677.out))) (below_size (by repeat (first | (with_reducible first | exact HB.out | apply below_alloc | apply pw_below_drewN | apply below_drew1 | refine below_set ?_ GE662.out | refine below_set ?_ GE681.out) | exact HB.out))))
        have n5_ := Aside0.mk (Kd.R_lower (Kd.R_newB (Kd.R_new' (Kd.R_new' (Kd.R_new' (Kd.R_new' ho1 (Kd.R_lt (by (with_reducible repeat (first | apply Kd.R_alloc | apply Kd.R_drewN | apply Kd.R_drew)); exact HO668.out))) (Kd.R_lt (by (with_reducible repeat (first | apply Kd.R_alloc | apply Kd.R_drewN | apply Kd.R_drew)); exact HO671.out))) (Kd.R_lt (by (with_reducible repeat (first | apply Kd.R_alloc | apply Kd.R_drewN | apply Kd.R_drew)); exact HO677.out))) (Kd.R_lt (by (with_reducible repeat (first | apply Kd.R_alloc | apply Kd.R_drewN | apply Kd.R_drew)); exact HO680.out))) (g := gb681) (o := .cells #[.int .i64 t673, .int .i64 t674, .slice Ao28 t675.length co28, .slice Ao29 t678.length co29] 48 (0, 0)) (by (with_reducible repeat (first | refine blk_drewN ?_ _ | refine blk_drew ?_ | refine blk_alloc ?_ _)); exact BK681.out)) (below_size (by repeat (first | (with_reducible first | exact HB.out | apply below_alloc | apply pw_below_drewN | apply below_drew1 | refine below_set ?_ GE662.out | refine below_set ?_ GE681.out) | exact HB.out))))
        have n6_ := Aside0.mk (blk_below (g := gb662) (o := .cells #[.int .i64 a0_0, .int .i64 a0_1, .slice A0_2 l0_2.length c0_2, .slice A0_3 l0_3.length c0_3] 43 (0, 0)) (by (with_reducible repeat (first | refine blk_drewN ?_ _ | refine blk_drew ?_ | refine blk_alloc ?_ _)); exact BK662.out) hb)
        have n7_ := Aside0.mk (blk_below (g := gb681) (o := .cells #[.int .i64 t673, .int .i64 t674, .slice Ao28 t675.length co28, .slice Ao29 t678.length co29] 48 (0, 0)) (by (with_reducible repeat (first | refine blk_drewN ?_ _ | refine blk_drew ?_ | refine blk_alloc ?_ _)); exact BK681.out) hb)
        have n8_ := Aside0.mk (below_step (by repeat (first | (with_reducible first | exact HB.out | apply below_alloc | apply pw_below_drewN | apply below_drew1 | refine below_set ?_ GE662.out | refine below_set ?_ GE681.out) | exact HB.out)) hb)
        clear HO668
        clear HO671
        clear HO677
        clear HO680
        clear BK662
        clear BK681
        clear HB
        have HO668 := n0_
        have HO671 := n1_
        have HO677 := n2_
        have HO680 := n3_
        have HO687 := n4_
        have HO690 := n5_
        have BK662 := n6_
        have BK681 := n7_
        have HB := n8_
        clear n0_ n1_ n2_ n3_ n4_ n5_ n6_ n7_ n8_
        (try clear hb)
        (try clear hb2)
        (try clear hk)
        (try clear hi)
        (try clear ho0)
        (try clear ho1)
        obtain ⟨Ao33, co33, eo33⟩ := Kd.R_slice HO687.out
        (first | subst eo33 | (injection eo33 with f1_ f2_ f3_; have f4_ := f1_.symm; have f5_ := f3_.symm; clear f1_ f2_ f3_; subst f4_; subst f5_))
        obtain ⟨Ao34, co34, eo34⟩ := Kd.R_slice HO690.out
        (first | subst eo34 | (injection eo34 with f1_ f2_ f3_; have f4_ := f1_.symm; have f5_ := f3_.symm; clear f1_ f2_ f3_; subst f4_; subst f5_))
        refine hK.out _ _ ⟨(blk_cell BK681.out 0).trans rfl, (blk_cell BK681.out 1).trans rfl, (blk_cell BK681.out 2).trans rfl, (blk_cell BK681.out 3).trans rfl, (blk_cell BK662.out 0).trans rfl, (blk_cell BK662.out 1).trans rfl, (blk_cell BK662.out 2).trans rfl, (blk_cell BK662.out 3).trans rfl⟩ (fun hHeld => ?_)
        clear hK K
        refine norm_ (a' := ?_) ?_ ?_
        rotate_left
        · show Act.put _ (some 24) _ = _
          simp only [Act.put, List.setIfInBounds_toArray, List.set_cons_zero, List.set_cons_succ, i64_w, i32_w]
          rfl
        refine one_ (i := 3) (N := some 25) #[true, true, true, true, false] rfl rfl (by kernel_rfl) (by decide) (fun K hK => ?_)
        refine goes_ Try.func35 (by kernel_rfl) rfl #[.agg #[.int .i64 t673, .int .i64 t674, .slice Ao28 t675.length co28, .slice Ao29 t678.length co29], .agg #[.int .i64 t683, .int .i64 t684, .slice Ao33 t685.length co33, .slice Ao34 t688.length co34]] (by rfl) rfl rfl (by (try simp only [List.map_toArray, List.map_cons, List.map_nil]); first | done | rfl | (simp only [List.length_drop, List.length_take]; rfl)) ?_
        with_reducible refine (laws_eqTerm.calls k t673 t674 _ _ t675 _ _ t678 t683 t684 _ _ t685 _ _ t688 true _ ?side1 ?side2 ?side3 ?side4 ?side5 ?side6 ?side7 ?side8 A13.out).mono ?_
        (case side1 => repeat (first | exact (Kd.R_reads' HO677.out).2.2 | (with_reducible refine Kd.C_alloc ?_ _) | (with_reducible refine Kd.C_drewN ?_ _) | (with_reducible refine Kd.C_drew ?_)))
        (case side2 => exact (Kd.R_reads' HO677.out).2.1)
        (case side3 => repeat (first | exact (Kd.R_reads' HO680.out).2.2 | (with_reducible refine Kd.C_alloc ?_ _) | (with_reducible refine Kd.C_drewN ?_ _) | (with_reducible refine Kd.C_drew ?_)))
        (case side4 => exact (Kd.R_reads' HO680.out).2.1)
        (case side5 => repeat (first | exact (Kd.R_reads' HO687.out).2.2 | (with_reducible refine Kd.C_alloc ?_ _) | (with_reducible refine Kd.C_drewN ?_ _) | (with_reducible refine Kd.C_drew ?_)))
        (case side6 => exact (Kd.R_reads' HO687.out).2.1)
        (case side7 => repeat (first | exact (Kd.R_reads' HO690.out).2.2 | (with_reducible refine Kd.C_alloc ?_ _) | (with_reducible refine Kd.C_drewN ?_ _) | (with_reducible refine Kd.C_drew ?_)))
        (case side8 => exact (Kd.R_reads' HO690.out).2.1)
        rintro e w35 ⟨rfl, hb⟩
        refine ⟨_, rfl, ?_⟩
        have n0_ := Aside0.mk (Kd.R_below (by (with_reducible repeat (first | apply Kd.R_alloc | apply Kd.R_drewN | apply Kd.R_drew)); exact HO668.out) hb)
        have n1_ := Aside0.mk (Kd.R_below (by (with_reducible repeat (first | apply Kd.R_alloc | apply Kd.R_drewN | apply Kd.R_drew)); exact HO671.out) hb)
        have n2_ := Aside0.mk (Kd.R_below (by (with_reducible repeat (first | apply Kd.R_alloc | apply Kd.R_drewN | apply Kd.R_drew)); exact HO677.out) hb)
        have n3_ := Aside0.mk (Kd.R_below (by (with_reducible repeat (first | apply Kd.R_alloc | apply Kd.R_drewN | apply Kd.R_drew)); exact HO680.out) hb)
        have n4_ := Aside0.mk (Kd.R_below (by (with_reducible repeat (first | apply Kd.R_alloc | apply Kd.R_drewN | apply Kd.R_drew)); exact HO687.out) hb)
        have n5_ := Aside0.mk (Kd.R_below (by (with_reducible repeat (first | apply Kd.R_alloc | apply Kd.R_drewN | apply Kd.R_drew)); exact HO690.out) hb)
        have n6_ := Aside0.mk (blk_below (g := gb662) (o := .cells #[.int .i64 a0_0, .int .i64 a0_1, .slice A0_2 l0_2.length c0_2, .slice A0_3 l0_3.length c0_3] 43 (0, 0)) (by (with_reducible repeat (first | refine blk_drewN ?_ _ | refine blk_drew ?_ | refine blk_alloc ?_ _)); exact BK662.out) hb)
        have n7_ := Aside0.mk (blk_below (g := gb681) (o := .cells #[.int .i64 t673, .int .i64 t674, .slice Ao28 t675.length co28, .slice Ao29 t678.length co29] 48 (0, 0)) (by (with_reducible repeat (first | refine blk_drewN ?_ _ | refine blk_drew ?_ | refine blk_alloc ?_ _)); exact BK681.out) hb)
        have n8_ := Aside0.mk (below_step (by repeat (first | (with_reducible first | exact HB.out | apply below_alloc | apply pw_below_drewN | apply below_drew1 | refine below_set ?_ GE662.out | refine below_set ?_ GE681.out) | exact HB.out)) hb)
        clear HO668
        clear HO671
        clear HO677
        clear HO680
        clear HO687
        clear HO690
        clear BK662
        clear BK681
        clear HB
        have HO668 := n0_
        have HO671 := n1_
        have HO677 := n2_
        have HO680 := n3_
        have HO687 := n4_
        have HO690 := n5_
        have BK662 := n6_
        have BK681 := n7_
        have HB := n8_
        clear n0_ n1_ n2_ n3_ n4_ n5_ n6_ n7_ n8_
        (try clear hb)
        (try clear hb2)
        (try clear hk)
        (try clear hi)
        refine hK.out _ _ ⟨(blk_cell BK681.out 0).trans rfl, (blk_cell BK681.out 1).trans rfl, (blk_cell BK681.out 2).trans rfl, (blk_cell BK681.out 3).trans rfl, (blk_cell BK662.out 0).trans rfl, (blk_cell BK662.out 1).trans rfl, (blk_cell BK662.out 2).trans rfl, (blk_cell BK662.out 3).trans rfl⟩ (fun hHeld => ?_)
        clear hK K
        refine norm_ (a' := ?_) ?_ ?_
        rotate_left
        · show Act.put _ (some 25) _ = _
          simp only [Act.put, List.setIfInBounds_toArray, List.set_cons_zero, List.set_cons_succ, i64_w, i32_w]
          rfl
        refine pure_ (i := 4) (N := some 26) (v := ?_) (a' := ?_) #[true, true, true, true, true] rfl rfl (by kernel_rfl) (fun _ _ _ h => h) (Or.inl ⟨by rfl, ?_⟩) ?_ ?_
        rotate_left
        · intro w'
          go_simp
          with_reducible rfl
        rotate_left
        · simp only [Act.put, List.setIfInBounds_toArray, List.set_cons_zero, List.set_cons_succ, i64_w, i32_w]
          rfl
        refine done_ (by kernel_rfl) ?_
        try go_wp2
        go_ret
        exact ⟨by first | rfl | (simp [errW_none, errW_some] <;> rfl) | (simp [*, errW_none, errW_some] <;> rfl), by repeat (first | (with_reducible first | exact HB.out | apply below_alloc | apply pw_below_drewN | apply below_drew1 | refine below_set ?_ GE662.out | refine below_set ?_ GE681.out) | exact HB.out)⟩
      · replace c14 := Bool.eq_false_iff.mpr c14
        subst c14
        have H1 : (some false) = some r := by rw [if_neg (show ¬ (false = true) by decide)] at H; exact H
        clear H
        have H := H1
        clear H1
        obtain rfl := Option.some.inj H
        exact absurd hr_ (by decide)
    · rw [if_neg c11] at H
      have c11b0 : (t682 == t672) = false := beq_eq_false_iff_ne.mpr c11
      have c11b1 : (t682 != t672) = true := bne_iff_ne.mpr c11
      obtain rfl := Option.some.inj H
      exact absurd hr_ (by decide)

def laws_FnExactSizeOfTerm.Pure : Prop := ∀ (a0_0 : Int) (a0_1 : Int) (l0_2 : List Int) (l0_3 : List (S43)), (Lit.int .i64 a0_0).wf = true → (Lit.int .i64 a0_1).wf = true → ((∀ z ∈ l0_2, (Lit.int .i64 z).wf = true) ∧ l0_2.length ≤ maxLen) → ((∀ z ∈ l0_3, Wf43 z) ∧ l0_3.length ≤ maxLen) → ∃ k, laws_FnExactSizeOfTerm.f k a0_0 a0_1 l0_2 l0_3 = some true

end Go.Proofs.Ytnokgkhkmnldeaa.P
