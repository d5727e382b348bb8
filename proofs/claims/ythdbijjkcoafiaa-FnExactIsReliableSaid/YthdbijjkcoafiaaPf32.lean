-- Printed by this session's own program (wip/tools/mkprint.py) out of the translation. Not trusted: Lean checks it.
import Derived.Test.YthdbijjkcoafiaaP0
import Derived.Test.YthdbijjkcoafiaaPf16
import Derived.Test.YthdbijjkcoafiaaPf61
import Derived.Test.YthdbijjkcoafiaaPf63
import Derived.Test.YthdbijjkcoafiaaPf65
namespace Go.Proofs.Ythdbijjkcoafiaa.P
open Go.RowKit Go.Proofs.YthdbijjkcoafiaaW.PrintWords Go.Proofs.YthdbijjkcoafiaaW.PrintLast Go.Proofs.YthdbijjkcoafiaaW.PrintMore
attribute [local go_sem] max2_int min2_int max_two min_two max_three min_three max_four min_four   -- for this text's walks alone
set_option linter.unusedVariables false
set_option linter.unusedSimpArgs false

/-! ### spec_IsReliable: function 32 -/
mutual
def spec_IsReliable.l0 : Nat → Int → Int → List Int → List Int → List Bool → Option (Bool)
  | 0, _, _, _, _, _ => none
  | k + 1, x3, x567000, x567001, x567002, x567003 => if x3 < x567000 then (if x3 > 0 then ((spec_l1Le.f x567000 x567001 x567002 x567003 x3 0).bind fun t568 => (spec_IsReliable.j1 k x3 t568 x567000 x567001 x567002 x567003)) else (spec_IsReliable.j1 k x3 false x567000 x567001 x567002 x567003)) else (some true)
def spec_IsReliable.j1 : Nat → Int → Bool → Int → List Int → List Int → List Bool → Option (Bool)
  | 0, _, _, _, _, _, _ => none
  | k + 1, x3, x20, x567000, x567001, x567002, x567003 => if x20 = true then (some false) else (spec_IsReliable.l1 k x3 0 x567000 x567001 x567002 x567003)
def spec_IsReliable.l1 : Nat → Int → Int → Int → List Int → List Int → List Bool → Option (Bool)
  | 0, _, _, _, _, _, _ => none
  | k + 1, x3, x4, x567000, x567001, x567002, x567003 => if x4 < x567000 then ((spec_l1Add.f x567000 x567001 x567002 x567003 x3 x4).bind fun t569 => (if t569 = 0 then (if (wrap64 (x3 + x4)) > 0 then (some false) else ((spec_l1Mul.f x567000 x567001 x567002 x567003 x3 x4).bind fun t570 => (if t570 = 0 then (if x3 > 0 then (if x4 > 0 then (some false) else (spec_IsReliable.l1 k x3 (wrap64 (x4 + 1)) x567000 x567001 x567002 x567003)) else (spec_IsReliable.l1 k x3 (wrap64 (x4 + 1)) x567000 x567001 x567002 x567003)) else (spec_IsReliable.l1 k x3 (wrap64 (x4 + 1)) x567000 x567001 x567002 x567003)))) else ((spec_l1Mul.f x567000 x567001 x567002 x567003 x3 x4).bind fun t571 => (if t571 = 0 then (if x3 > 0 then (if x4 > 0 then (some false) else (spec_IsReliable.l1 k x3 (wrap64 (x4 + 1)) x567000 x567001 x567002 x567003)) else (spec_IsReliable.l1 k x3 (wrap64 (x4 + 1)) x567000 x567001 x567002 x567003)) else (spec_IsReliable.l1 k x3 (wrap64 (x4 + 1)) x567000 x567001 x567002 x567003))))) else (spec_IsReliable.l0 k (wrap64 (x3 + 1)) x567000 x567001 x567002 x567003)
end
def spec_IsReliable.f (k : Nat) (a0_0 : Int) (l0_1 : List Int) (l0_2 : List Int) (l0_3 : List Bool) : Option (Bool) := (spec_IsSystem.f k a0_0 l0_1 l0_2 l0_3).bind fun t567 => (if t567 = true then (spec_IsReliable.l0 k 0 a0_0 l0_1 l0_2 l0_3) else (some false))
set_option maxHeartbeats 8000000 in
set_option maxRecDepth 100000 in
theorem spec_IsReliable.calls (k : Nat) (a0_0 : Int) (A0_1 : Option Addr) (c0_1 : Nat) (l0_1 : List Int) (A0_2 : Option Addr) (c0_2 : Nat) (l0_2 : List Int) (A0_3 : Option Addr) (c0_3 : Nat) (l0_3 : List Bool) (r : Bool) (w : World) (hr0_1 : Kd.C (Kd.int .i64) w A0_1 l0_1.length l0_1) (hc0_1 : l0_1.length ≤ c0_1) (hr0_2 : Kd.C (Kd.int .i64) w A0_2 l0_2.length l0_2) (hc0_2 : l0_2.length ≤ c0_2) (hr0_3 : Kd.C Kd.bool w A0_3 l0_3.length l0_3) (hc0_3 : l0_3.length ≤ c0_3) (h : spec_IsReliable.f k a0_0 l0_1 l0_2 l0_3 = some r) :
    Calls Try.prog 32 #[.agg #[.int .i64 a0_0, .slice A0_1 l0_1.length c0_1, .slice A0_2 l0_2.length c0_2, .slice A0_3 l0_3.length c0_3]] w fun e w' => e = .returned (.bool r) ∧ Below w.heap.size w w' := by
  have hu28 := Try.underlying28
  have HR0_1 := Aside0.mk hr0_1
  have HC0_1 := Aside0.mk hc0_1
  clear hr0_1 hc0_1
  have HR0_2 := Aside0.mk hr0_2
  have HC0_2 := Aside0.mk hc0_2
  clear hr0_2 hc0_2
  have HR0_3 := Aside0.mk hr0_3
  have HC0_3 := Aside0.mk hc0_3
  clear hr0_3 hc0_3
  have HB := Aside0.mk (Below.refl w.heap.size w)
  have H : ((spec_IsSystem.f k a0_0 l0_1 l0_2 l0_3).bind fun t567 => (if t567 = true then (spec_IsReliable.l0 k 0 a0_0 l0_1 l0_2 l0_3) else (some false))) = some r := h
  clear h
  replace H := Option.bind_eq_some_iff.mp H
  obtain ⟨t567, A20, H⟩ := H
  replace H : (if t567 = true then (spec_IsReliable.l0 k 0 a0_0 l0_1 l0_2 l0_3) else (some false)) = some r := H
  have A2 := Aside0.mk A20
  clear A20
  have HP3 := Aside0.mk H
  clear H
  go_enter Try.func32, Try.ntmps32
  go_upto_if 7 with (first | ((with_reducible refine gate_dst (N := 1) rfl ?_); refine box_event ?hg (N := 1) ?hd (cs := #[.int .i64 a0_0, .slice A0_1 l0_1.length c0_1, .slice A0_2 l0_2.length c0_2, .slice A0_3 l0_3.length c0_3]) (t := 28) ?hr ?_; (case hd => rfl); (case hg => rfl); (case hr => first | (go_simp; done) | (go_simp; rfl)); intro gb566 hg w4 hbox hb; have n0_ := Aside0.mk (below_step (by repeat (first | (with_reducible first | exact HB.out | apply below_alloc | apply pw_below_drewN | apply below_drew1) | exact HB.out)) hb); have n1_ := Aside0.mk (hbox); have n2_ := Aside0.mk ((by rw [hg]; exact (below_size (by repeat (first | (with_reducible first | exact HB.out | apply below_alloc | apply pw_below_drewN | apply below_drew1) | exact HB.out))) : w.heap.size ≤ gb566)); have n3_ := Aside0.mk ((by rw [hg]; exact (below_size (by repeat (first | (with_reducible first | exact HB.out | apply below_alloc | apply pw_below_drewN | apply below_drew1) | exact HB.out))) : w.heap.size ≤ gb566)); clear HB; have HB := n0_; have BK566 := n1_; have GW566 := n2_; have GE566 := n3_; clear n0_ n1_ n2_ n3_; clear hb hbox hg; have hcz5_0 : w4.cell? ⟨gb566, 0, none⟩ = some (.int .i64 a0_0) := (blk_cell BK566.out 0).trans rfl; have hcz5_1 : w4.cell? ⟨gb566, 1, none⟩ = some (.slice A0_1 l0_1.length c0_1) := (blk_cell BK566.out 1).trans rfl; have hcz5_2 : w4.cell? ⟨gb566, 2, none⟩ = some (.slice A0_2 l0_2.length c0_2) := (blk_cell BK566.out 2).trans rfl; have hcz5_3 : w4.cell? ⟨gb566, 3, none⟩ = some (.slice A0_3 l0_3.length c0_3) := (blk_cell BK566.out 3).trans rfl; have hfz5_0 := blk_frozen BK566.out 0; have hfz5_1 := blk_frozen BK566.out 1; have hfz5_2 := blk_frozen BK566.out 2; have hfz5_3 := blk_frozen BK566.out 3) | ((with_reducible refine gate_callee (f := 16) rfl ?_); refine goesL_ (some 6) rfl rfl Try.func16 (by kernel_rfl) rfl #[.agg #[.int .i64 a0_0, .slice A0_1 l0_1.length c0_1, .slice A0_2 l0_2.length c0_2, .slice A0_3 l0_3.length c0_3]] rfl (by (try simp only [List.map_toArray, List.map_cons, List.map_nil]); first | done | rfl | (simp only [List.length_drop, List.length_take]; rfl)) ?_; (with_reducible refine (spec_IsSystem.calls k a0_0 _ _ l0_1 _ _ l0_2 _ _ l0_3 t567 _ ?side1 ?side2 ?side3 ?side4 ?side5 ?side6 A2.out).mono ?_); (case side1 => repeat (first | exact (Kd.C_below HR0_1.out HB.out) | (with_reducible refine Kd.C_alloc ?_ _) | (with_reducible refine Kd.C_drewN ?_ _) | (with_reducible refine Kd.C_drew ?_))); (case side2 => exact HC0_1.out); (case side3 => repeat (first | exact (Kd.C_below HR0_2.out HB.out) | (with_reducible refine Kd.C_alloc ?_ _) | (with_reducible refine Kd.C_drewN ?_ _) | (with_reducible refine Kd.C_drew ?_))); (case side4 => exact HC0_2.out); (case side5 => repeat (first | exact (Kd.C_below HR0_3.out HB.out) | (with_reducible refine Kd.C_alloc ?_ _) | (with_reducible refine Kd.C_drewN ?_ _) | (with_reducible refine Kd.C_drew ?_))); (case side6 => exact HC0_3.out); rintro e w6 ⟨rfl, hb⟩; refine ⟨_, rfl, ?_⟩; have n0_ := Aside0.mk (blk_below (g := gb566) (o := .cells #[.int .i64 a0_0, .slice A0_1 l0_1.length c0_1, .slice A0_2 l0_2.length c0_2, .slice A0_3 l0_3.length c0_3] 28 (0, 0)) (by (with_reducible repeat (first | refine blk_drewN ?_ _ | refine blk_drew ?_ | refine blk_alloc ?_ _)); exact BK566.out) hb); have n1_ := Aside0.mk (below_step (by repeat (first | (with_reducible first | exact HB.out | apply below_alloc | apply pw_below_drewN | apply below_drew1 | refine below_set ?_ GE566.out) | exact HB.out)) hb); clear BK566; clear HB; have BK566 := n0_; have HB := n1_; clear n0_ n1_; (try clear hb); (try clear hb2); (try clear hk); (try clear hi)))
  have H := HP3.out
  clear HP3
  by_cases c7 : t567 = true
  · subst c7
    have H1 : (spec_IsReliable.l0 k 0 a0_0 l0_1 l0_2 l0_3) = some r := by rw [if_pos rfl] at H; exact H
    clear H
    have H := H1
    clear H1
    have H' := Aside0.mk H
    clear H
    go_wp2
    go_loopg [3] k (fun kq v3 w' => ∃ (x3_1 : Int), v3 = .int .i64 x3_1 ∧ Aside0 (spec_IsReliable.l0 kq x3_1 a0_0 l0_1 l0_2 l0_3 = some r) ∧ Aside0 (kq ≤ k) ∧ Aside0 (w'.heap[gb566]? = some (.cells #[.int .i64 a0_0, (.slice A0_1 l0_1.length c0_1), (.slice A0_2 l0_2.length c0_2), (.slice A0_3 l0_3.length c0_3)] 28 (0, 0))) ∧ Aside0 (Below w.heap.size w w'))
    case atStart => exact ⟨(0), (by first | rfl | (simp; done) | (simp [*]; done)), H', ⟨Nat.le_refl _⟩, ⟨by (with_reducible repeat (first | refine blk_drewN ?_ _ | refine blk_drew ?_ | refine blk_alloc ?_ _)); exact BK566.out⟩, ⟨by repeat (first | (with_reducible first | exact HB.out | apply below_alloc | apply pw_below_drewN | apply below_drew1 | refine below_set ?_ GE566.out) | exact HB.out)⟩⟩
    case round =>
      clear H'
      try clear c1
      try clear p2
      try clear c3
      try clear c7
      try clear hcz5_0
      try clear hcz5_1
      try clear hcz5_2
      try clear hcz5_3
      try clear hfz5_0
      try clear hfz5_1
      try clear hfz5_2
      try clear hfz5_3
      obtain ⟨x3_1, rfl, HA, HK1, BK566, HB⟩ := hrel
      cases gk with
      | zero => exact absurd HA.out (by simp [spec_IsReliable.l0])
      | succ k1 =>
        have H := HA.out
        clear HA
        simp only [spec_IsReliable.l0] at H
        by_cases c8 : x3_1 < a0_0
        · rw [if_pos c8] at H
          have c8b0 : decide (x3_1 < a0_0) = true := decide_eq_true c8
          clear c8
          (first | rw [c8b0] | (simp only [i64_w, i32_w]; rw [c8b0]) | skip)
          have HC9 := Aside0.mk H
          clear H
          have hcz10_0 : wr.cell? ⟨gb566, 0, none⟩ = some (.int .i64 a0_0) := (blk_cell BK566.out 0).trans rfl
          have hcz10_1 : wr.cell? ⟨gb566, 1, none⟩ = some (.slice A0_1 l0_1.length c0_1) := (blk_cell BK566.out 1).trans rfl
          have hcz10_2 : wr.cell? ⟨gb566, 2, none⟩ = some (.slice A0_2 l0_2.length c0_2) := (blk_cell BK566.out 2).trans rfl
          have hcz10_3 : wr.cell? ⟨gb566, 3, none⟩ = some (.slice A0_3 l0_3.length c0_3) := (blk_cell BK566.out 3).trans rfl
          have hfz10_0 := blk_frozen BK566.out 0
          have hfz10_1 := blk_frozen BK566.out 1
          have hfz10_2 := blk_frozen BK566.out 2
          have hfz10_3 := blk_frozen BK566.out 3
          go_upto_region 6 with (fail)
          go_cut [20] (fun v20 wc => ∃ (kq : Nat) (x20_8 : Bool), v20 = .bool x20_8 ∧ Aside0 (spec_IsReliable.j1 kq x3_1 x20_8 a0_0 l0_1 l0_2 l0_3 = some r) ∧ Aside0 (kq ≤ k1) ∧ Aside0 (wc.heap[gb566]? = some (.cells #[.int .i64 a0_0, (.slice A0_1 l0_1.length c0_1), (.slice A0_2 l0_2.length c0_2), (.slice A0_3 l0_3.length c0_3)] 28 (0, 0))) ∧ Aside0 (Below w.heap.size w wc))
          case first =>
            have H := HC9.out
            clear HC9
            by_cases c11 : x3_1 > 0
            · rw [if_pos c11] at H
              have c11b0 : decide (0 < x3_1) = true := decide_eq_true c11
              clear c11
              (first | rw [c11b0] | (simp only [i64_w, i32_w]; rw [c11b0]) | skip)
              replace H := Option.bind_eq_some_iff.mp H
              obtain ⟨t568, A120, H⟩ := H
              replace H : (spec_IsReliable.j1 k1 x3_1 t568 a0_0 l0_1 l0_2 l0_3) = some r := H
              have A12 := Aside0.mk A120
              clear A120
              have H' := Aside0.mk H
              clear H
              have hcz13_0 : wr.cell? ⟨gb566, 0, none⟩ = some (.int .i64 a0_0) := (blk_cell BK566.out 0).trans rfl
              have hcz13_1 : wr.cell? ⟨gb566, 1, none⟩ = some (.slice A0_1 l0_1.length c0_1) := (blk_cell BK566.out 1).trans rfl
              have hcz13_2 : wr.cell? ⟨gb566, 2, none⟩ = some (.slice A0_2 l0_2.length c0_2) := (blk_cell BK566.out 2).trans rfl
              have hcz13_3 : wr.cell? ⟨gb566, 3, none⟩ = some (.slice A0_3 l0_3.length c0_3) := (blk_cell BK566.out 3).trans rfl
              have hfz13_0 := blk_frozen BK566.out 0
              have hfz13_1 := blk_frozen BK566.out 1
              have hfz13_2 := blk_frozen BK566.out 2
              have hfz13_3 := blk_frozen BK566.out 3
              go_wp2_with (first | (go_at_call 61; (with_reducible refine (spec_l1Le.calls a0_0 _ _ l0_1 _ _ l0_2 _ _ l0_3 x3_1 0 t568 _ ?side1 ?side2 ?side3 ?side4 ?side5 ?side6 A12.out).mono ?_); (case side1 => repeat (first | exact (Kd.C_below HR0_1.out HB.out) | (with_reducible refine Kd.C_alloc ?_ _) | (with_reducible refine Kd.C_drewN ?_ _) | (with_reducible refine Kd.C_drew ?_))); (case side2 => exact HC0_1.out); (case side3 => repeat (first | exact (Kd.C_below HR0_2.out HB.out) | (with_reducible refine Kd.C_alloc ?_ _) | (with_reducible refine Kd.C_drewN ?_ _) | (with_reducible refine Kd.C_drew ?_))); (case side4 => exact HC0_2.out); (case side5 => repeat (first | exact (Kd.C_below HR0_3.out HB.out) | (with_reducible refine Kd.C_alloc ?_ _) | (with_reducible refine Kd.C_drewN ?_ _) | (with_reducible refine Kd.C_drew ?_))); (case side6 => exact HC0_3.out); rintro e w14 ⟨rfl, hb⟩; have n0_ := Aside0.mk (blk_below (g := gb566) (o := .cells #[.int .i64 a0_0, .slice A0_1 l0_1.length c0_1, .slice A0_2 l0_2.length c0_2, .slice A0_3 l0_3.length c0_3] 28 (0, 0)) (by (with_reducible repeat (first | refine blk_drewN ?_ _ | refine blk_drew ?_ | refine blk_alloc ?_ _)); exact BK566.out) hb); have n1_ := Aside0.mk (below_step (by repeat (first | (with_reducible first | exact HB.out | apply below_alloc | apply pw_below_drewN | apply below_drew1 | refine below_set ?_ GE566.out) | exact HB.out)) hb); clear BK566; clear HB; have BK566 := n0_; have HB := n1_; clear n0_ n1_; (try clear hb); (try clear hb2); (try clear hk); (try clear hi)))
              go_meet
              case rel => exact ⟨_, (t568), (by first | rfl | (simp; done) | (simp [*]; done)), H', ⟨by have := HK1.out; first | omega | exact Nat.le_refl _⟩, ⟨by (with_reducible repeat (first | refine blk_drewN ?_ _ | refine blk_drew ?_ | refine blk_alloc ?_ _)); exact BK566.out⟩, ⟨by repeat (first | (with_reducible first | exact HB.out | apply below_alloc | apply pw_below_drewN | apply below_drew1 | refine below_set ?_ GE566.out) | exact HB.out)⟩⟩
            · rw [if_neg c11] at H
              have c11b0 : decide (0 < x3_1) = false := decide_eq_false c11
              clear c11
              (first | rw [c11b0] | (simp only [i64_w, i32_w]; rw [c11b0]) | skip)
              have H' := Aside0.mk H
              clear H
              go_wp2
              go_meet
              case rel => exact ⟨_, (false), (by first | rfl | (simp; done) | (simp [*]; done)), H', ⟨by have := HK1.out; first | omega | exact Nat.le_refl _⟩, ⟨by (with_reducible repeat (first | refine blk_drewN ?_ _ | refine blk_drew ?_ | refine blk_alloc ?_ _)); exact BK566.out⟩, ⟨by repeat (first | (with_reducible first | exact HB.out | apply below_alloc | apply pw_below_drewN | apply below_drew1 | refine below_set ?_ GE566.out) | exact HB.out)⟩⟩
          case rest =>
            clear HC9
            try clear c1
            try clear p2
            try clear c3
            try clear c7
            try clear c8
            try clear c8b0
            try clear hcz10_0
            try clear hcz10_1
            try clear hcz10_2
            try clear hcz10_3
            try clear hcz5_0
            try clear hcz5_1
            try clear hcz5_2
            try clear hcz5_3
            try clear hfz10_0
            try clear hfz10_1
            try clear hfz10_2
            try clear hfz10_3
            try clear hfz5_0
            try clear hfz5_1
            try clear hfz5_2
            try clear hfz5_3
            try clear p2
            obtain ⟨kq, x20_8, rfl, HA, HJ8, BK566, HB⟩ := hcut
            cases kq with
            | zero => exact absurd HA.out (by simp [spec_IsReliable.j1])
            | succ kj8 =>
              have H := HA.out
              clear HA
              simp only [spec_IsReliable.j1] at H
              by_cases c15 : x20_8 = true
              · subst c15
                have H1 : (some false) = some r := by rw [if_pos rfl] at H; exact H
                clear H
                have H := H1
                clear H1
                obtain rfl := Option.some.inj H
                go_wp2
                go_ret
                exact ⟨by first | rfl | (simp [errW_none, errW_some] <;> rfl) | (simp [*, errW_none, errW_some] <;> rfl), by repeat (first | (with_reducible first | exact HB.out | apply below_alloc | apply pw_below_drewN | apply below_drew1 | refine below_set ?_ GE566.out) | exact HB.out)⟩
              · replace c15 := Bool.eq_false_iff.mpr c15
                subst c15
                have H1 : (spec_IsReliable.l1 kj8 x3_1 0 a0_0 l0_1 l0_2 l0_3) = some r := by rw [if_neg (show ¬ (false = true) by decide)] at H; exact H
                clear H
                have H := H1
                clear H1
                have H' := Aside0.mk H
                clear H
                go_wp2
                go_loopg [4] kj8 (fun kq v4 w' => ∃ (x4_3 : Int), v4 = .int .i64 x4_3 ∧ Aside0 (spec_IsReliable.l1 kq x3_1 x4_3 a0_0 l0_1 l0_2 l0_3 = some r) ∧ Aside0 (kq ≤ kj8) ∧ Aside0 (w'.heap[gb566]? = some (.cells #[.int .i64 a0_0, (.slice A0_1 l0_1.length c0_1), (.slice A0_2 l0_2.length c0_2), (.slice A0_3 l0_3.length c0_3)] 28 (0, 0))) ∧ Aside0 (Below w.heap.size w w'))
                case atStart => exact ⟨(0), (by first | rfl | (simp; done) | (simp [*]; done)), H', ⟨Nat.le_refl _⟩, ⟨by (with_reducible repeat (first | refine blk_drewN ?_ _ | refine blk_drew ?_ | refine blk_alloc ?_ _)); exact BK566.out⟩, ⟨by repeat (first | (with_reducible first | exact HB.out | apply below_alloc | apply pw_below_drewN | apply below_drew1 | refine below_set ?_ GE566.out) | exact HB.out)⟩⟩
                case round =>
                  clear H'
                  try clear c1
                  try clear p2
                  try clear c3
                  try clear c7
                  try clear c8
                  try clear c8b0
                  try clear c15
                  try clear hcz10_0
                  try clear hcz10_1
                  try clear hcz10_2
                  try clear hcz10_3
                  try clear hcz5_0
                  try clear hcz5_1
                  try clear hcz5_2
                  try clear hcz5_3
                  try clear hfz10_0
                  try clear hfz10_1
                  try clear hfz10_2
                  try clear hfz10_3
                  try clear hfz5_0
                  try clear hfz5_1
                  try clear hfz5_2
                  try clear hfz5_3
                  try clear p2
                  obtain ⟨x4_3, rfl, HA, HK3, BK566, HB⟩ := hrel
                  cases gk with
                  | zero => exact absurd HA.out (by simp [spec_IsReliable.l1])
                  | succ k3 =>
                    have H := HA.out
                    clear HA
                    simp only [spec_IsReliable.l1] at H
                    by_cases c16 : x4_3 < a0_0
                    · rw [if_pos c16] at H
                      have c16b0 : decide (x4_3 < a0_0) = true := decide_eq_true c16
                      clear c16
                      replace H := Option.bind_eq_some_iff.mp H
                      obtain ⟨t569, A170, H⟩ := H
                      replace H : (if t569 = 0 then (if (wrap64 (x3_1 + x4_3)) > 0 then (some false) else ((spec_l1Mul.f a0_0 l0_1 l0_2 l0_3 x3_1 x4_3).bind fun t570 => (if t570 = 0 then (if x3_1 > 0 then (if x4_3 > 0 then (some false) else (spec_IsReliable.l1 k3 x3_1 (wrap64 (x4_3 + 1)) a0_0 l0_1 l0_2 l0_3)) else (spec_IsReliable.l1 k3 x3_1 (wrap64 (x4_3 + 1)) a0_0 l0_1 l0_2 l0_3)) else (spec_IsReliable.l1 k3 x3_1 (wrap64 (x4_3 + 1)) a0_0 l0_1 l0_2 l0_3)))) else ((spec_l1Mul.f a0_0 l0_1 l0_2 l0_3 x3_1 x4_3).bind fun t571 => (if t571 = 0 then (if x3_1 > 0 then (if x4_3 > 0 then (some false) else (spec_IsReliable.l1 k3 x3_1 (wrap64 (x4_3 + 1)) a0_0 l0_1 l0_2 l0_3)) else (spec_IsReliable.l1 k3 x3_1 (wrap64 (x4_3 + 1)) a0_0 l0_1 l0_2 l0_3)) else (spec_IsReliable.l1 k3 x3_1 (wrap64 (x4_3 + 1)) a0_0 l0_1 l0_2 l0_3)))) = some r := H
                      have A17 := Aside0.mk A170
                      clear A170
                      by_cases c18 : t569 = 0
                      · rw [if_pos c18] at H
                        have c18b0 : (t569 == 0) = true := beq_iff_eq.mpr c18
                        have c18b1 : (t569 != 0) = false := bne_eq_false_iff_eq.mpr c18
                        clear c18
                        by_cases c19 : (wrap64 (x3_1 + x4_3)) > 0
                        · rw [if_pos c19] at H
                          have c19b0 : decide (0 < (wrap64 (x3_1 + x4_3))) = true := decide_eq_true c19
                          clear c19
                          obtain rfl := Option.some.inj H
                          have hcz20_0 : wr.cell? ⟨gb566, 0, none⟩ = some (.int .i64 a0_0) := (blk_cell BK566.out 0).trans rfl
                          have hcz20_1 : wr.cell? ⟨gb566, 1, none⟩ = some (.slice A0_1 l0_1.length c0_1) := (blk_cell BK566.out 1).trans rfl
                          have hcz20_2 : wr.cell? ⟨gb566, 2, none⟩ = some (.slice A0_2 l0_2.length c0_2) := (blk_cell BK566.out 2).trans rfl
                          have hcz20_3 : wr.cell? ⟨gb566, 3, none⟩ = some (.slice A0_3 l0_3.length c0_3) := (blk_cell BK566.out 3).trans rfl
                          have hfz20_0 := blk_frozen BK566.out 0
                          have hfz20_1 := blk_frozen BK566.out 1
                          have hfz20_2 := blk_frozen BK566.out 2
                          have hfz20_3 := blk_frozen BK566.out 3
                          go_wp2_with (first | ((with_reducible refine gate_callee (f := 63) rfl ?_); refine goesL_ (some 30) rfl rfl Try.func63 (by kernel_rfl) rfl #[.agg #[.int .i64 a0_0, .slice A0_1 l0_1.length c0_1, .slice A0_2 l0_2.length c0_2, .slice A0_3 l0_3.length c0_3], .int .i64 x3_1, .int .i64 x4_3] rfl (by (try simp only [List.map_toArray, List.map_cons, List.map_nil]); first | done | rfl | (simp only [List.length_drop, List.length_take]; rfl)) ?_; (with_reducible refine (spec_l1Add.calls a0_0 _ _ l0_1 _ _ l0_2 _ _ l0_3 x3_1 x4_3 t569 _ ?side1 ?side2 ?side3 ?side4 ?side5 ?side6 A17.out).mono ?_); (case side1 => repeat (first | exact (Kd.C_below HR0_1.out HB.out) | (with_reducible refine Kd.C_alloc ?_ _) | (with_reducible refine Kd.C_drewN ?_ _) | (with_reducible refine Kd.C_drew ?_))); (case side2 => exact HC0_1.out); (case side3 => repeat (first | exact (Kd.C_below HR0_2.out HB.out) | (with_reducible refine Kd.C_alloc ?_ _) | (with_reducible refine Kd.C_drewN ?_ _) | (with_reducible refine Kd.C_drew ?_))); (case side4 => exact HC0_2.out); (case side5 => repeat (first | exact (Kd.C_below HR0_3.out HB.out) | (with_reducible refine Kd.C_alloc ?_ _) | (with_reducible refine Kd.C_drewN ?_ _) | (with_reducible refine Kd.C_drew ?_))); (case side6 => exact HC0_3.out); rintro e w21 ⟨rfl, hb⟩; refine ⟨_, rfl, ?_⟩; have n0_ := Aside0.mk (blk_below (g := gb566) (o := .cells #[.int .i64 a0_0, .slice A0_1 l0_1.length c0_1, .slice A0_2 l0_2.length c0_2, .slice A0_3 l0_3.length c0_3] 28 (0, 0)) (by (with_reducible repeat (first | refine blk_drewN ?_ _ | refine blk_drew ?_ | refine blk_alloc ?_ _)); exact BK566.out) hb); have n1_ := Aside0.mk (below_step (by repeat (first | (with_reducible first | exact HB.out | apply below_alloc | apply pw_below_drewN | apply below_drew1 | refine below_set ?_ GE566.out) | exact HB.out)) hb); clear BK566; clear HB; have BK566 := n0_; have HB := n1_; clear n0_ n1_; (try clear hb); (try clear hb2); (try clear hk); (try clear hi)))
                          go_ret
                          exact ⟨by first | rfl | (simp [errW_none, errW_some] <;> rfl) | (simp [*, errW_none, errW_some] <;> rfl), by repeat (first | (with_reducible first | exact HB.out | apply below_alloc | apply pw_below_drewN | apply below_drew1 | refine below_set ?_ GE566.out) | exact HB.out)⟩
                        · rw [if_neg c19] at H
                          have c19b0 : decide (0 < (wrap64 (x3_1 + x4_3))) = false := decide_eq_false c19
                          clear c19
                          replace H := Option.bind_eq_some_iff.mp H
                          obtain ⟨t570, A220, H⟩ := H
                          replace H : (if t570 = 0 then (if x3_1 > 0 then (if x4_3 > 0 then (some false) else (spec_IsReliable.l1 k3 x3_1 (wrap64 (x4_3 + 1)) a0_0 l0_1 l0_2 l0_3)) else (spec_IsReliable.l1 k3 x3_1 (wrap64 (x4_3 + 1)) a0_0 l0_1 l0_2 l0_3)) else (spec_IsReliable.l1 k3 x3_1 (wrap64 (x4_3 + 1)) a0_0 l0_1 l0_2 l0_3)) = some r := H
                          have A22 := Aside0.mk A220
                          clear A220
                          by_cases c23 : t570 = 0
                          · rw [if_pos c23] at H
                            have c23b0 : (t570 == 0) = true := beq_iff_eq.mpr c23
                            have c23b1 : (t570 != 0) = false := bne_eq_false_iff_eq.mpr c23
                            clear c23
                            by_cases c24 : x3_1 > 0
                            · rw [if_pos c24] at H
                              have c24b0 : decide (0 < x3_1) = true := decide_eq_true c24
                              clear c24
                              have HP25 := Aside0.mk H
                              clear H
                              have hcz26_0 : wr.cell? ⟨gb566, 0, none⟩ = some (.int .i64 a0_0) := (blk_cell BK566.out 0).trans rfl
                              have hcz26_1 : wr.cell? ⟨gb566, 1, none⟩ = some (.slice A0_1 l0_1.length c0_1) := (blk_cell BK566.out 1).trans rfl
                              have hcz26_2 : wr.cell? ⟨gb566, 2, none⟩ = some (.slice A0_2 l0_2.length c0_2) := (blk_cell BK566.out 2).trans rfl
                              have hcz26_3 : wr.cell? ⟨gb566, 3, none⟩ = some (.slice A0_3 l0_3.length c0_3) := (blk_cell BK566.out 3).trans rfl
                              have hfz26_0 := blk_frozen BK566.out 0
                              have hfz26_1 := blk_frozen BK566.out 1
                              have hfz26_2 := blk_frozen BK566.out 2
                              have hfz26_3 := blk_frozen BK566.out 3
                              go_upto_if 52 with (first | ((with_reducible refine gate_callee (f := 63) rfl ?_); refine goesL_ (some 30) rfl rfl Try.func63 (by kernel_rfl) rfl #[.agg #[.int .i64 a0_0, .slice A0_1 l0_1.length c0_1, .slice A0_2 l0_2.length c0_2, .slice A0_3 l0_3.length c0_3], .int .i64 x3_1, .int .i64 x4_3] rfl (by (try simp only [List.map_toArray, List.map_cons, List.map_nil]); first | done | rfl | (simp only [List.length_drop, List.length_take]; rfl)) ?_; (with_reducible refine (spec_l1Add.calls a0_0 _ _ l0_1 _ _ l0_2 _ _ l0_3 x3_1 x4_3 t569 _ ?side1 ?side2 ?side3 ?side4 ?side5 ?side6 A17.out).mono ?_); (case side1 => repeat (first | exact (Kd.C_below HR0_1.out HB.out) | (with_reducible refine Kd.C_alloc ?_ _) | (with_reducible refine Kd.C_drewN ?_ _) | (with_reducible refine Kd.C_drew ?_))); (case side2 => exact HC0_1.out); (case side3 => repeat (first | exact (Kd.C_below HR0_2.out HB.out) | (with_reducible refine Kd.C_alloc ?_ _) | (with_reducible refine Kd.C_drewN ?_ _) | (with_reducible refine Kd.C_drew ?_))); (case side4 => exact HC0_2.out); (case side5 => repeat (first | exact (Kd.C_below HR0_3.out HB.out) | (with_reducible refine Kd.C_alloc ?_ _) | (with_reducible refine Kd.C_drewN ?_ _) | (with_reducible refine Kd.C_drew ?_))); (case side6 => exact HC0_3.out); rintro e w27 ⟨rfl, hb⟩; refine ⟨_, rfl, ?_⟩; have n0_ := Aside0.mk (blk_below (g := gb566) (o := .cells #[.int .i64 a0_0, .slice A0_1 l0_1.length c0_1, .slice A0_2 l0_2.length c0_2, .slice A0_3 l0_3.length c0_3] 28 (0, 0)) (by (with_reducible repeat (first | refine blk_drewN ?_ _ | refine blk_drew ?_ | refine blk_alloc ?_ _)); exact BK566.out) hb); have n1_ := Aside0.mk (below_step (by repeat (first | (with_reducible first | exact HB.out | apply below_alloc | apply pw_below_drewN | apply below_drew1 | refine below_set ?_ GE566.out) | exact HB.out)) hb); clear BK566; clear HB; have BK566 := n0_; have HB := n1_; clear n0_ n1_; (try clear hb); (try clear hb2); (try clear hk); (try clear hi); have hcz28_0 : w27.cell? ⟨gb566, 0, none⟩ = some (.int .i64 a0_0) := (blk_cell BK566.out 0).trans rfl; have hcz28_1 : w27.cell? ⟨gb566, 1, none⟩ = some (.slice A0_1 l0_1.length c0_1) := (blk_cell BK566.out 1).trans rfl; have hcz28_2 : w27.cell? ⟨gb566, 2, none⟩ = some (.slice A0_2 l0_2.length c0_2) := (blk_cell BK566.out 2).trans rfl; have hcz28_3 : w27.cell? ⟨gb566, 3, none⟩ = some (.slice A0_3 l0_3.length c0_3) := (blk_cell BK566.out 3).trans rfl; have hfz28_0 := blk_frozen BK566.out 0; have hfz28_1 := blk_frozen BK566.out 1; have hfz28_2 := blk_frozen BK566.out 2; have hfz28_3 := blk_frozen BK566.out 3) | (go_at_call 65; (with_reducible refine (spec_l1Mul.calls a0_0 _ _ l0_1 _ _ l0_2 _ _ l0_3 x3_1 x4_3 t570 _ ?side1 ?side2 ?side3 ?side4 ?side5 ?side6 A22.out).mono ?_); (case side1 => repeat (first | exact (Kd.C_below HR0_1.out HB.out) | (with_reducible refine Kd.C_alloc ?_ _) | (with_reducible refine Kd.C_drewN ?_ _) | (with_reducible refine Kd.C_drew ?_))); (case side2 => exact HC0_1.out); (case side3 => repeat (first | exact (Kd.C_below HR0_2.out HB.out) | (with_reducible refine Kd.C_alloc ?_ _) | (with_reducible refine Kd.C_drewN ?_ _) | (with_reducible refine Kd.C_drew ?_))); (case side4 => exact HC0_2.out); (case side5 => repeat (first | exact (Kd.C_below HR0_3.out HB.out) | (with_reducible refine Kd.C_alloc ?_ _) | (with_reducible refine Kd.C_drewN ?_ _) | (with_reducible refine Kd.C_drew ?_))); (case side6 => exact HC0_3.out); rintro e w29 ⟨rfl, hb⟩; have n0_ := Aside0.mk (blk_below (g := gb566) (o := .cells #[.int .i64 a0_0, .slice A0_1 l0_1.length c0_1, .slice A0_2 l0_2.length c0_2, .slice A0_3 l0_3.length c0_3] 28 (0, 0)) (by (with_reducible repeat (first | refine blk_drewN ?_ _ | refine blk_drew ?_ | refine blk_alloc ?_ _)); exact BK566.out) hb); have n1_ := Aside0.mk (below_step (by repeat (first | (with_reducible first | exact HB.out | apply below_alloc | apply pw_below_drewN | apply below_drew1 | refine below_set ?_ GE566.out) | exact HB.out)) hb); clear BK566; clear HB; have BK566 := n0_; have HB := n1_; clear n0_ n1_; (try clear hb); (try clear hb2); (try clear hk); (try clear hi)))
                              have H := HP25.out
                              clear HP25
                              by_cases c30 : x4_3 > 0
                              · rw [if_pos c30] at H
                                have c30b0 : decide (0 < x4_3) = true := decide_eq_true c30
                                clear c30
                                (first | rw [c30b0] | (simp only [i64_w, i32_w]; rw [c30b0]) | skip)
                                obtain rfl := Option.some.inj H
                                go_wp2
                                go_ret
                                exact ⟨by first | rfl | (simp [errW_none, errW_some] <;> rfl) | (simp [*, errW_none, errW_some] <;> rfl), by repeat (first | (with_reducible first | exact HB.out | apply below_alloc | apply pw_below_drewN | apply below_drew1 | refine below_set ?_ GE566.out) | exact HB.out)⟩
                              · rw [if_neg c30] at H
                                have c30b0 : decide (0 < x4_3) = false := decide_eq_false c30
                                clear c30
                                (first | rw [c30b0] | (simp only [i64_w, i32_w]; rw [c30b0]) | skip)
                                have H' := Aside0.mk H
                                clear H
                                go_wp2
                                go_roundg k3
                                case measure => have := HK1.out; have := HJ8.out; have := HK3.out; omega
                                case rel => exact ⟨(wrap64 (x4_3 + 1)), (by first | rfl | (simp; done) | (simp [*]; done)), H', ⟨by have := HK1.out; have := HJ8.out; have := HK3.out; omega⟩, ⟨by (with_reducible repeat (first | refine blk_drewN ?_ _ | refine blk_drew ?_ | refine blk_alloc ?_ _)); exact BK566.out⟩, ⟨by repeat (first | (with_reducible first | exact HB.out | apply below_alloc | apply pw_below_drewN | apply below_drew1 | refine below_set ?_ GE566.out) | exact HB.out)⟩⟩
                            · rw [if_neg c24] at H
                              have c24b0 : decide (0 < x3_1) = false := decide_eq_false c24
                              clear c24
                              have H' := Aside0.mk H
                              clear H
                              have hcz31_0 : wr.cell? ⟨gb566, 0, none⟩ = some (.int .i64 a0_0) := (blk_cell BK566.out 0).trans rfl
                              have hcz31_1 : wr.cell? ⟨gb566, 1, none⟩ = some (.slice A0_1 l0_1.length c0_1) := (blk_cell BK566.out 1).trans rfl
                              have hcz31_2 : wr.cell? ⟨gb566, 2, none⟩ = some (.slice A0_2 l0_2.length c0_2) := (blk_cell BK566.out 2).trans rfl
                              have hcz31_3 : wr.cell? ⟨gb566, 3, none⟩ = some (.slice A0_3 l0_3.length c0_3) := (blk_cell BK566.out 3).trans rfl
                              have hfz31_0 := blk_frozen BK566.out 0
                              have hfz31_1 := blk_frozen BK566.out 1
                              have hfz31_2 := blk_frozen BK566.out 2
                              have hfz31_3 := blk_frozen BK566.out 3
                              go_wp2_with (first | ((with_reducible refine gate_callee (f := 63) rfl ?_); refine goesL_ (some 30) rfl rfl Try.func63 (by kernel_rfl) rfl #[.agg #[.int .i64 a0_0, .slice A0_1 l0_1.length c0_1, .slice A0_2 l0_2.length c0_2, .slice A0_3 l0_3.length c0_3], .int .i64 x3_1, .int .i64 x4_3] rfl (by (try simp only [List.map_toArray, List.map_cons, List.map_nil]); first | done | rfl | (simp only [List.length_drop, List.length_take]; rfl)) ?_; (with_reducible refine (spec_l1Add.calls a0_0 _ _ l0_1 _ _ l0_2 _ _ l0_3 x3_1 x4_3 t569 _ ?side1 ?side2 ?side3 ?side4 ?side5 ?side6 A17.out).mono ?_); (case side1 => repeat (first | exact (Kd.C_below HR0_1.out HB.out) | (with_reducible refine Kd.C_alloc ?_ _) | (with_reducible refine Kd.C_drewN ?_ _) | (with_reducible refine Kd.C_drew ?_))); (case side2 => exact HC0_1.out); (case side3 => repeat (first | exact (Kd.C_below HR0_2.out HB.out) | (with_reducible refine Kd.C_alloc ?_ _) | (with_reducible refine Kd.C_drewN ?_ _) | (with_reducible refine Kd.C_drew ?_))); (case side4 => exact HC0_2.out); (case side5 => repeat (first | exact (Kd.C_below HR0_3.out HB.out) | (with_reducible refine Kd.C_alloc ?_ _) | (with_reducible refine Kd.C_drewN ?_ _) | (with_reducible refine Kd.C_drew ?_))); (case side6 => exact HC0_3.out); rintro e w32 ⟨rfl, hb⟩; refine ⟨_, rfl, ?_⟩; have n0_ := Aside0.mk (blk_below (g := gb566) (o := .cells #[.int .i64 a0_0, .slice A0_1 l0_1.length c0_1, .slice A0_2 l0_2.length c0_2, .slice A0_3 l0_3.length c0_3] 28 (0, 0)) (by (with_reducible repeat (first | refine blk_drewN ?_ _ | refine blk_drew ?_ | refine blk_alloc ?_ _)); exact BK566.out) hb); have n1_ := Aside0.mk (below_step (by repeat (first | (with_reducible first | exact HB.out | apply below_alloc | apply pw_below_drewN | apply below_drew1 | refine below_set ?_ GE566.out) | exact HB.out)) hb); clear BK566; clear HB; have BK566 := n0_; have HB := n1_; clear n0_ n1_; (try clear hb); (try clear hb2); (try clear hk); (try clear hi); have hcz33_0 : w32.cell? ⟨gb566, 0, none⟩ = some (.int .i64 a0_0) := (blk_cell BK566.out 0).trans rfl; have hcz33_1 : w32.cell? ⟨gb566, 1, none⟩ = some (.slice A0_1 l0_1.length c0_1) := (blk_cell BK566.out 1).trans rfl; have hcz33_2 : w32.cell? ⟨gb566, 2, none⟩ = some (.slice A0_2 l0_2.length c0_2) := (blk_cell BK566.out 2).trans rfl; have hcz33_3 : w32.cell? ⟨gb566, 3, none⟩ = some (.slice A0_3 l0_3.length c0_3) := (blk_cell BK566.out 3).trans rfl; have hfz33_0 := blk_frozen BK566.out 0; have hfz33_1 := blk_frozen BK566.out 1; have hfz33_2 := blk_frozen BK566.out 2; have hfz33_3 := blk_frozen BK566.out 3) | (go_at_call 65; (with_reducible refine (spec_l1Mul.calls a0_0 _ _ l0_1 _ _ l0_2 _ _ l0_3 x3_1 x4_3 t570 _ ?side1 ?side2 ?side3 ?side4 ?side5 ?side6 A22.out).mono ?_); (case side1 => repeat (first | exact (Kd.C_below HR0_1.out HB.out) | (with_reducible refine Kd.C_alloc ?_ _) | (with_reducible refine Kd.C_drewN ?_ _) | (with_reducible refine Kd.C_drew ?_))); (case side2 => exact HC0_1.out); (case side3 => repeat (first | exact (Kd.C_below HR0_2.out HB.out) | (with_reducible refine Kd.C_alloc ?_ _) | (with_reducible refine Kd.C_drewN ?_ _) | (with_reducible refine Kd.C_drew ?_))); (case side4 => exact HC0_2.out); (case side5 => repeat (first | exact (Kd.C_below HR0_3.out HB.out) | (with_reducible refine Kd.C_alloc ?_ _) | (with_reducible refine Kd.C_drewN ?_ _) | (with_reducible refine Kd.C_drew ?_))); (case side6 => exact HC0_3.out); rintro e w34 ⟨rfl, hb⟩; have n0_ := Aside0.mk (blk_below (g := gb566) (o := .cells #[.int .i64 a0_0, .slice A0_1 l0_1.length c0_1, .slice A0_2 l0_2.length c0_2, .slice A0_3 l0_3.length c0_3] 28 (0, 0)) (by (with_reducible repeat (first | refine blk_drewN ?_ _ | refine blk_drew ?_ | refine blk_alloc ?_ _)); exact BK566.out) hb); have n1_ := Aside0.mk (below_step (by repeat (first | (with_reducible first | exact HB.out | apply below_alloc | apply pw_below_drewN | apply below_drew1 | refine below_set ?_ GE566.out) | exact HB.out)) hb); clear BK566; clear HB; have BK566 := n0_; have HB := n1_; clear n0_ n1_; (try clear hb); (try clear hb2); (try clear hk); (try clear hi)))
                              go_roundg k3
                              case measure => have := HK1.out; have := HJ8.out; have := HK3.out; omega
                              case rel => exact ⟨(wrap64 (x4_3 + 1)), (by first | rfl | (simp; done) | (simp [*]; done)), H', ⟨by have := HK1.out; have := HJ8.out; have := HK3.out; omega⟩, ⟨by (with_reducible repeat (first | refine blk_drewN ?_ _ | refine blk_drew ?_ | refine blk_alloc ?_ _)); exact BK566.out⟩, ⟨by repeat (first | (with_reducible first | exact HB.out | apply below_alloc | apply pw_below_drewN | apply below_drew1 | refine below_set ?_ GE566.out) | exact HB.out)⟩⟩
                          · rw [if_neg c23] at H
                            have c23b0 : (t570 == 0) = false := beq_eq_false_iff_ne.mpr c23
                            have c23b1 : (t570 != 0) = true := bne_iff_ne.mpr c23
                            have H' := Aside0.mk H
                            clear H
                            have hcz35_0 : wr.cell? ⟨gb566, 0, none⟩ = some (.int .i64 a0_0) := (blk_cell BK566.out 0).trans rfl
                            have hcz35_1 : wr.cell? ⟨gb566, 1, none⟩ = some (.slice A0_1 l0_1.length c0_1) := (blk_cell BK566.out 1).trans rfl
                            have hcz35_2 : wr.cell? ⟨gb566, 2, none⟩ = some (.slice A0_2 l0_2.length c0_2) := (blk_cell BK566.out 2).trans rfl
                            have hcz35_3 : wr.cell? ⟨gb566, 3, none⟩ = some (.slice A0_3 l0_3.length c0_3) := (blk_cell BK566.out 3).trans rfl
                            have hfz35_0 := blk_frozen BK566.out 0
                            have hfz35_1 := blk_frozen BK566.out 1
                            have hfz35_2 := blk_frozen BK566.out 2
                            have hfz35_3 := blk_frozen BK566.out 3
                            go_wp2_with (first | ((with_reducible refine gate_callee (f := 63) rfl ?_); refine goesL_ (some 30) rfl rfl Try.func63 (by kernel_rfl) rfl #[.agg #[.int .i64 a0_0, .slice A0_1 l0_1.length c0_1, .slice A0_2 l0_2.length c0_2, .slice A0_3 l0_3.length c0_3], .int .i64 x3_1, .int .i64 x4_3] rfl (by (try simp only [List.map_toArray, List.map_cons, List.map_nil]); first | done | rfl | (simp only [List.length_drop, List.length_take]; rfl)) ?_; (with_reducible refine (spec_l1Add.calls a0_0 _ _ l0_1 _ _ l0_2 _ _ l0_3 x3_1 x4_3 t569 _ ?side1 ?side2 ?side3 ?side4 ?side5 ?side6 A17.out).mono ?_); (case side1 => repeat (first | exact (Kd.C_below HR0_1.out HB.out) | (with_reducible refine Kd.C_alloc ?_ _) | (with_reducible refine Kd.C_drewN ?_ _) | (with_reducible refine Kd.C_drew ?_))); (case side2 => exact HC0_1.out); (case side3 => repeat (first | exact (Kd.C_below HR0_2.out HB.out) | (with_reducible refine Kd.C_alloc ?_ _) | (with_reducible refine Kd.C_drewN ?_ _) | (with_reducible refine Kd.C_drew ?_))); (case side4 => exact HC0_2.out); (case side5 => repeat (first | exact (Kd.C_below HR0_3.out HB.out) | (with_reducible refine Kd.C_alloc ?_ _) | (with_reducible refine Kd.C_drewN ?_ _) | (with_reducible refine Kd.C_drew ?_))); (case side6 => exact HC0_3.out); rintro e w36 ⟨rfl, hb⟩; refine ⟨_, rfl, ?_⟩; have n0_ := Aside0.mk (blk_below (g := gb566) (o := .cells #[.int .i64 a0_0, .slice A0_1 l0_1.length c0_1, .slice A0_2 l0_2.length c0_2, .slice A0_3 l0_3.length c0_3] 28 (0, 0)) (by (with_reducible repeat (first | refine blk_drewN ?_ _ | refine blk_drew ?_ | refine blk_alloc ?_ _)); exact BK566.out) hb); have n1_ := Aside0.mk (below_step (by repeat (first | (with_reducible first | exact HB.out | apply below_alloc | apply pw_below_drewN | apply below_drew1 | refine below_set ?_ GE566.out) | exact HB.out)) hb); clear BK566; clear HB; have BK566 := n0_; have HB := n1_; clear n0_ n1_; (try clear hb); (try clear hb2); (try clear hk); (try clear hi); have hcz37_0 : w36.cell? ⟨gb566, 0, none⟩ = some (.int .i64 a0_0) := (blk_cell BK566.out 0).trans rfl; have hcz37_1 : w36.cell? ⟨gb566, 1, none⟩ = some (.slice A0_1 l0_1.length c0_1) := (blk_cell BK566.out 1).trans rfl; have hcz37_2 : w36.cell? ⟨gb566, 2, none⟩ = some (.slice A0_2 l0_2.length c0_2) := (blk_cell BK566.out 2).trans rfl; have hcz37_3 : w36.cell? ⟨gb566, 3, none⟩ = some (.slice A0_3 l0_3.length c0_3) := (blk_cell BK566.out 3).trans rfl; have hfz37_0 := blk_frozen BK566.out 0; have hfz37_1 := blk_frozen BK566.out 1; have hfz37_2 := blk_frozen BK566.out 2; have hfz37_3 := blk_frozen BK566.out 3) | (go_at_call 65; (with_reducible refine (spec_l1Mul.calls a0_0 _ _ l0_1 _ _ l0_2 _ _ l0_3 x3_1 x4_3 t570 _ ?side1 ?side2 ?side3 ?side4 ?side5 ?side6 A22.out).mono ?_); (case side1 => repeat (first | exact (Kd.C_below HR0_1.out HB.out) | (with_reducible refine Kd.C_alloc ?_ _) | (with_reducible refine Kd.C_drewN ?_ _) | (with_reducible refine Kd.C_drew ?_))); (case side2 => exact HC0_1.out); (case side3 => repeat (first | exact (Kd.C_below HR0_2.out HB.out) | (with_reducible refine Kd.C_alloc ?_ _) | (with_reducible refine Kd.C_drewN ?_ _) | (with_reducible refine Kd.C_drew ?_))); (case side4 => exact HC0_2.out); (case side5 => repeat (first | exact (Kd.C_below HR0_3.out HB.out) | (with_reducible refine Kd.C_alloc ?_ _) | (with_reducible refine Kd.C_drewN ?_ _) | (with_reducible refine Kd.C_drew ?_))); (case side6 => exact HC0_3.out); rintro e w38 ⟨rfl, hb⟩; have n0_ := Aside0.mk (blk_below (g := gb566) (o := .cells #[.int .i64 a0_0, .slice A0_1 l0_1.length c0_1, .slice A0_2 l0_2.length c0_2, .slice A0_3 l0_3.length c0_3] 28 (0, 0)) (by (with_reducible repeat (first | refine blk_drewN ?_ _ | refine blk_drew ?_ | refine blk_alloc ?_ _)); exact BK566.out) hb); have n1_ := Aside0.mk (below_step (by repeat (first | (with_reducible first | exact HB.out | apply below_alloc | apply pw_below_drewN | apply below_drew1 | refine below_set ?_ GE566.out) | exact HB.out)) hb); clear BK566; clear HB; have BK566 := n0_; have HB := n1_; clear n0_ n1_; (try clear hb); (try clear hb2); (try clear hk); (try clear hi)))
                            go_roundg k3
                            case measure => have := HK1.out; have := HJ8.out; have := HK3.out; omega
                            case rel => exact ⟨(wrap64 (x4_3 + 1)), (by first | rfl | (simp; done) | (simp [*]; done)), H', ⟨by have := HK1.out; have := HJ8.out; have := HK3.out; omega⟩, ⟨by (with_reducible repeat (first | refine blk_drewN ?_ _ | refine blk_drew ?_ | refine blk_alloc ?_ _)); exact BK566.out⟩, ⟨by repeat (first | (with_reducible first | exact HB.out | apply below_alloc | apply pw_below_drewN | apply below_drew1 | refine below_set ?_ GE566.out) | exact HB.out)⟩⟩
                      · rw [if_neg c18] at H
                        have c18b0 : (t569 == 0) = false := beq_eq_false_iff_ne.mpr c18
                        have c18b1 : (t569 != 0) = true := bne_iff_ne.mpr c18
                        replace H := Option.bind_eq_some_iff.mp H
                        obtain ⟨t571, A390, H⟩ := H
                        replace H : (if t571 = 0 then (if x3_1 > 0 then (if x4_3 > 0 then (some false) else (spec_IsReliable.l1 k3 x3_1 (wrap64 (x4_3 + 1)) a0_0 l0_1 l0_2 l0_3)) else (spec_IsReliable.l1 k3 x3_1 (wrap64 (x4_3 + 1)) a0_0 l0_1 l0_2 l0_3)) else (spec_IsReliable.l1 k3 x3_1 (wrap64 (x4_3 + 1)) a0_0 l0_1 l0_2 l0_3)) = some r := H
                        have A39 := Aside0.mk A390
                        clear A390
                        by_cases c40 : t571 = 0
                        · rw [if_pos c40] at H
                          have c40b0 : (t571 == 0) = true := beq_iff_eq.mpr c40
                          have c40b1 : (t571 != 0) = false := bne_eq_false_iff_eq.mpr c40
                          clear c40
                          by_cases c41 : x3_1 > 0
                          · rw [if_pos c41] at H
                            have c41b0 : decide (0 < x3_1) = true := decide_eq_true c41
                            clear c41
                            have HP42 := Aside0.mk H
                            clear H
                            have hcz43_0 : wr.cell? ⟨gb566, 0, none⟩ = some (.int .i64 a0_0) := (blk_cell BK566.out 0).trans rfl
                            have hcz43_1 : wr.cell? ⟨gb566, 1, none⟩ = some (.slice A0_1 l0_1.length c0_1) := (blk_cell BK566.out 1).trans rfl
                            have hcz43_2 : wr.cell? ⟨gb566, 2, none⟩ = some (.slice A0_2 l0_2.length c0_2) := (blk_cell BK566.out 2).trans rfl
                            have hcz43_3 : wr.cell? ⟨gb566, 3, none⟩ = some (.slice A0_3 l0_3.length c0_3) := (blk_cell BK566.out 3).trans rfl
                            have hfz43_0 := blk_frozen BK566.out 0
                            have hfz43_1 := blk_frozen BK566.out 1
                            have hfz43_2 := blk_frozen BK566.out 2
                            have hfz43_3 := blk_frozen BK566.out 3
                            go_upto_if 52 with (first | ((with_reducible refine gate_callee (f := 63) rfl ?_); refine goesL_ (some 30) rfl rfl Try.func63 (by kernel_rfl) rfl #[.agg #[.int .i64 a0_0, .slice A0_1 l0_1.length c0_1, .slice A0_2 l0_2.length c0_2, .slice A0_3 l0_3.length c0_3], .int .i64 x3_1, .int .i64 x4_3] rfl (by (try simp only [List.map_toArray, List.map_cons, List.map_nil]); first | done | rfl | (simp only [List.length_drop, List.length_take]; rfl)) ?_; (with_reducible refine (spec_l1Add.calls a0_0 _ _ l0_1 _ _ l0_2 _ _ l0_3 x3_1 x4_3 t569 _ ?side1 ?side2 ?side3 ?side4 ?side5 ?side6 A17.out).mono ?_); (case side1 => repeat (first | exact (Kd.C_below HR0_1.out HB.out) | (with_reducible refine Kd.C_alloc ?_ _) | (with_reducible refine Kd.C_drewN ?_ _) | (with_reducible refine Kd.C_drew ?_))); (case side2 => exact HC0_1.out); (case side3 => repeat (first | exact (Kd.C_below HR0_2.out HB.out) | (with_reducible refine Kd.C_alloc ?_ _) | (with_reducible refine Kd.C_drewN ?_ _) | (with_reducible refine Kd.C_drew ?_))); (case side4 => exact HC0_2.out); (case side5 => repeat (first | exact (Kd.C_below HR0_3.out HB.out) | (with_reducible refine Kd.C_alloc ?_ _) | (with_reducible refine Kd.C_drewN ?_ _) | (with_reducible refine Kd.C_drew ?_))); (case side6 => exact HC0_3.out); rintro e w44 ⟨rfl, hb⟩; refine ⟨_, rfl, ?_⟩; have n0_ := Aside0.mk (blk_below (g := gb566) (o := .cells #[.int .i64 a0_0, .slice A0_1 l0_1.length c0_1, .slice A0_2 l0_2.length c0_2, .slice A0_3 l0_3.length c0_3] 28 (0, 0)) (by (with_reducible repeat (first | refine blk_drewN ?_ _ | refine blk_drew ?_ | refine blk_alloc ?_ _)); exact BK566.out) hb); have n1_ := Aside0.mk (below_step (by repeat (first | (with_reducible first | exact HB.out | apply below_alloc | apply pw_below_drewN | apply below_drew1 | refine below_set ?_ GE566.out) | exact HB.out)) hb); clear BK566; clear HB; have BK566 := n0_; have HB := n1_; clear n0_ n1_; (try clear hb); (try clear hb2); (try clear hk); (try clear hi); have hcz45_0 : w44.cell? ⟨gb566, 0, none⟩ = some (.int .i64 a0_0) := (blk_cell BK566.out 0).trans rfl; have hcz45_1 : w44.cell? ⟨gb566, 1, none⟩ = some (.slice A0_1 l0_1.length c0_1) := (blk_cell BK566.out 1).trans rfl; have hcz45_2 : w44.cell? ⟨gb566, 2, none⟩ = some (.slice A0_2 l0_2.length c0_2) := (blk_cell BK566.out 2).trans rfl; have hcz45_3 : w44.cell? ⟨gb566, 3, none⟩ = some (.slice A0_3 l0_3.length c0_3) := (blk_cell BK566.out 3).trans rfl; have hfz45_0 := blk_frozen BK566.out 0; have hfz45_1 := blk_frozen BK566.out 1; have hfz45_2 := blk_frozen BK566.out 2; have hfz45_3 := blk_frozen BK566.out 3) | (go_at_call 65; (with_reducible refine (spec_l1Mul.calls a0_0 _ _ l0_1 _ _ l0_2 _ _ l0_3 x3_1 x4_3 t571 _ ?side1 ?side2 ?side3 ?side4 ?side5 ?side6 A39.out).mono ?_); (case side1 => repeat (first | exact (Kd.C_below HR0_1.out HB.out) | (with_reducible refine Kd.C_alloc ?_ _) | (with_reducible refine Kd.C_drewN ?_ _) | (with_reducible refine Kd.C_drew ?_))); (case side2 => exact HC0_1.out); (case side3 => repeat (first | exact (Kd.C_below HR0_2.out HB.out) | (with_reducible refine Kd.C_alloc ?_ _) | (with_reducible refine Kd.C_drewN ?_ _) | (with_reducible refine Kd.C_drew ?_))); (case side4 => exact HC0_2.out); (case side5 => repeat (first | exact (Kd.C_below HR0_3.out HB.out) | (with_reducible refine Kd.C_alloc ?_ _) | (with_reducible refine Kd.C_drewN ?_ _) | (with_reducible refine Kd.C_drew ?_))); (case side6 => exact HC0_3.out); rintro e w46 ⟨rfl, hb⟩; have n0_ := Aside0.mk (blk_below (g := gb566) (o := .cells #[.int .i64 a0_0, .slice A0_1 l0_1.length c0_1, .slice A0_2 l0_2.length c0_2, .slice A0_3 l0_3.length c0_3] 28 (0, 0)) (by (with_reducible repeat (first | refine blk_drewN ?_ _ | refine blk_drew ?_ | refine blk_alloc ?_ _)); exact BK566.out) hb); have n1_ := Aside0.mk (below_step (by repeat (first | (with_reducible first | exact HB.out | apply below_alloc | apply pw_below_drewN | apply below_drew1 | refine below_set ?_ GE566.out) | exact HB.out)) hb); clear BK566; clear HB; have BK566 := n0_; have HB := n1_; clear n0_ n1_; (try clear hb); (try clear hb2); (try clear hk); (try clear hi)))
                            have H := HP42.out
                            clear HP42
                            by_cases c47 : x4_3 > 0
                            · rw [if_pos c47] at H
                              have c47b0 : decide (0 < x4_3) = true := decide_eq_true c47
                              clear c47
                              (first | rw [c47b0] | (simp only [i64_w, i32_w]; rw [c47b0]) | skip)
                              obtain rfl := Option.some.inj H
                              go_wp2
                              go_ret
                              exact ⟨by first | rfl | (simp [errW_none, errW_some] <;> rfl) | (simp [*, errW_none, errW_some] <;> rfl), by repeat (first | (with_reducible first | exact HB.out | apply below_alloc | apply pw_below_drewN | apply below_drew1 | refine below_set ?_ GE566.out) | exact HB.out)⟩
                            · rw [if_neg c47] at H
                              have c47b0 : decide (0 < x4_3) = false := decide_eq_false c47
                              clear c47
                              (first | rw [c47b0] | (simp only [i64_w, i32_w]; rw [c47b0]) | skip)
                              have H' := Aside0.mk H
                              clear H
                              go_wp2
                              go_roundg k3
                              case measure => have := HK1.out; have := HJ8.out; have := HK3.out; omega
                              case rel => exact ⟨(wrap64 (x4_3 + 1)), (by first | rfl | (simp; done) | (simp [*]; done)), H', ⟨by have := HK1.out; have := HJ8.out; have := HK3.out; omega⟩, ⟨by (with_reducible repeat (first | refine blk_drewN ?_ _ | refine blk_drew ?_ | refine blk_alloc ?_ _)); exact BK566.out⟩, ⟨by repeat (first | (with_reducible first | exact HB.out | apply below_alloc | apply pw_below_drewN | apply below_drew1 | refine below_set ?_ GE566.out) | exact HB.out)⟩⟩
                          · rw [if_neg c41] at H
                            have c41b0 : decide (0 < x3_1) = false := decide_eq_false c41
                            clear c41
                            have H' := Aside0.mk H
                            clear H
                            have hcz48_0 : wr.cell? ⟨gb566, 0, none⟩ = some (.int .i64 a0_0) := (blk_cell BK566.out 0).trans rfl
                            have hcz48_1 : wr.cell? ⟨gb566, 1, none⟩ = some (.slice A0_1 l0_1.length c0_1) := (blk_cell BK566.out 1).trans rfl
                            have hcz48_2 : wr.cell? ⟨gb566, 2, none⟩ = some (.slice A0_2 l0_2.length c0_2) := (blk_cell BK566.out 2).trans rfl
                            have hcz48_3 : wr.cell? ⟨gb566, 3, none⟩ = some (.slice A0_3 l0_3.length c0_3) := (blk_cell BK566.out 3).trans rfl
                            have hfz48_0 := blk_frozen BK566.out 0
                            have hfz48_1 := blk_frozen BK566.out 1
                            have hfz48_2 := blk_frozen BK566.out 2
                            have hfz48_3 := blk_frozen BK566.out 3
                            go_wp2_with (first | ((with_reducible refine gate_callee (f := 63) rfl ?_); refine goesL_ (some 30) rfl rfl Try.func63 (by kernel_rfl) rfl #[.agg #[.int .i64 a0_0, .slice A0_1 l0_1.length c0_1, .slice A0_2 l0_2.length c0_2, .slice A0_3 l0_3.length c0_3], .int .i64 x3_1, .int .i64 x4_3] rfl (by (try simp only [List.map_toArray, List.map_cons, List.map_nil]); first | done | rfl | (simp only [List.length_drop, List.length_take]; rfl)) ?_; (with_reducible refine (spec_l1Add.calls a0_0 _ _ l0_1 _ _ l0_2 _ _ l0_3 x3_1 x4_3 t569 _ ?side1 ?side2 ?side3 ?side4 ?side5 ?side6 A17.out).mono ?_); (case side1 => repeat (first | exact (Kd.C_below HR0_1.out HB.out) | (with_reducible refine Kd.C_alloc ?_ _) | (with_reducible refine Kd.C_drewN ?_ _) | (with_reducible refine Kd.C_drew ?_))); (case side2 => exact HC0_1.out); (case side3 => repeat (first | exact (Kd.C_below HR0_2.out HB.out) | (with_reducible refine Kd.C_alloc ?_ _) | (with_reducible refine Kd.C_drewN ?_ _) | (with_reducible refine Kd.C_drew ?_))); (case side4 => exact HC0_2.out); (case side5 => repeat (first | exact (Kd.C_below HR0_3.out HB.out) | (with_reducible refine Kd.C_alloc ?_ _) | (with_reducible refine Kd.C_drewN ?_ _) | (with_reducible refine Kd.C_drew ?_))); (case side6 => exact HC0_3.out); rintro e w49 ⟨rfl, hb⟩; refine ⟨_, rfl, ?_⟩; have n0_ := Aside0.mk (blk_below (g := gb566) (o := .cells #[.int .i64 a0_0, .slice A0_1 l0_1.length c0_1, .slice A0_2 l0_2.length c0_2, .slice A0_3 l0_3.length c0_3] 28 (0, 0)) (by (with_reducible repeat (first | refine blk_drewN ?_ _ | refine blk_drew ?_ | refine blk_alloc ?_ _)); exact BK566.out) hb); have n1_ := Aside0.mk (below_step (by repeat (first | (with_reducible first | exact HB.out | apply below_alloc | apply pw_below_drewN | apply below_drew1 | refine below_set ?_ GE566.out) | exact HB.out)) hb); clear BK566; clear HB; have BK566 := n0_; have HB := n1_; clear n0_ n1_; (try clear hb); (try clear hb2); (try clear hk); (try clear hi); have hcz50_0 : w49.cell? ⟨gb566, 0, none⟩ = some (.int .i64 a0_0) := (blk_cell BK566.out 0).trans rfl; have hcz50_1 : w49.cell? ⟨gb566, 1, none⟩ = some (.slice A0_1 l0_1.length c0_1) := (blk_cell BK566.out 1).trans rfl; have hcz50_2 : w49.cell? ⟨gb566, 2, none⟩ = some (.slice A0_2 l0_2.length c0_2) := (blk_cell BK566.out 2).trans rfl; have hcz50_3 : w49.cell? ⟨gb566, 3, none⟩ = some (.slice A0_3 l0_3.length c0_3) := (blk_cell BK566.out 3).trans rfl; have hfz50_0 := blk_frozen BK566.out 0; have hfz50_1 := blk_frozen BK566.out 1; have hfz50_2 := blk_frozen BK566.out 2; have hfz50_3 := blk_frozen BK566.out 3) | (go_at_call 65; (with_reducible refine (spec_l1Mul.calls a0_0 _ _ l0_1 _ _ l0_2 _ _ l0_3 x3_1 x4_3 t571 _ ?side1 ?side2 ?side3 ?side4 ?side5 ?side6 A39.out).mono ?_); (case side1 => repeat (first | exact (Kd.C_below HR0_1.out HB.out) | (with_reducible refine Kd.C_alloc ?_ _) | (with_reducible refine Kd.C_drewN ?_ _) | (with_reducible refine Kd.C_drew ?_))); (case side2 => exact HC0_1.out); (case side3 => repeat (first | exact (Kd.C_below HR0_2.out HB.out) | (with_reducible refine Kd.C_alloc ?_ _) | (with_reducible refine Kd.C_drewN ?_ _) | (with_reducible refine Kd.C_drew ?_))); (case side4 => exact HC0_2.out); (case side5 => repeat (first | exact (Kd.C_below HR0_3.out HB.out) | (with_reducible refine Kd.C_alloc ?_ _) | (with_reducible refine Kd.C_drewN ?_ _) | (with_reducible refine Kd.C_drew ?_))); (case side6 => exact HC0_3.out); rintro e w51 ⟨rfl, hb⟩; have n0_ := Aside0.mk (blk_below (g := gb566) (o := .cells #[.int .i64 a0_0, .slice A0_1 l0_1.length c0_1, .slice A0_2 l0_2.length c0_2, .slice A0_3 l0_3.length c0_3] 28 (0, 0)) (by (with_reducible repeat (first | refine blk_drewN ?_ _ | refine blk_drew ?_ | refine blk_alloc ?_ _)); exact BK566.out) hb); have n1_ := Aside0.mk (below_step (by repeat (first | (with_reducible first | exact HB.out | apply below_alloc | apply pw_below_drewN | apply below_drew1 | refine below_set ?_ GE566.out) | exact HB.out)) hb); clear BK566; clear HB; have BK566 := n0_; have HB := n1_; clear n0_ n1_; (try clear hb); (try clear hb2); (try clear hk); (try clear hi)))
                            go_roundg k3
                            case measure => have := HK1.out; have := HJ8.out; have := HK3.out; omega
                            case rel => exact ⟨(wrap64 (x4_3 + 1)), (by first | rfl | (simp; done) | (simp [*]; done)), H', ⟨by have := HK1.out; have := HJ8.out; have := HK3.out; omega⟩, ⟨by (with_reducible repeat (first | refine blk_drewN ?_ _ | refine blk_drew ?_ | refine blk_alloc ?_ _)); exact BK566.out⟩, ⟨by repeat (first | (with_reducible first | exact HB.out | apply below_alloc | apply pw_below_drewN | apply below_drew1 | refine below_set ?_ GE566.out) | exact HB.out)⟩⟩
                        · rw [if_neg c40] at H
                          have c40b0 : (t571 == 0) = false := beq_eq_false_iff_ne.mpr c40
                          have c40b1 : (t571 != 0) = true := bne_iff_ne.mpr c40
                          have H' := Aside0.mk H
                          clear H
                          have hcz52_0 : wr.cell? ⟨gb566, 0, none⟩ = some (.int .i64 a0_0) := (blk_cell BK566.out 0).trans rfl
                          have hcz52_1 : wr.cell? ⟨gb566, 1, none⟩ = some (.slice A0_1 l0_1.length c0_1) := (blk_cell BK566.out 1).trans rfl
                          have hcz52_2 : wr.cell? ⟨gb566, 2, none⟩ = some (.slice A0_2 l0_2.length c0_2) := (blk_cell BK566.out 2).trans rfl
                          have hcz52_3 : wr.cell? ⟨gb566, 3, none⟩ = some (.slice A0_3 l0_3.length c0_3) := (blk_cell BK566.out 3).trans rfl
                          have hfz52_0 := blk_frozen BK566.out 0
                          have hfz52_1 := blk_frozen BK566.out 1
                          have hfz52_2 := blk_frozen BK566.out 2
                          have hfz52_3 := blk_frozen BK566.out 3
                          go_wp2_with (first | ((with_reducible refine gate_callee (f := 63) rfl ?_); refine goesL_ (some 30) rfl rfl Try.func63 (by kernel_rfl) rfl #[.agg #[.int .i64 a0_0, .slice A0_1 l0_1.length c0_1, .slice A0_2 l0_2.length c0_2, .slice A0_3 l0_3.length c0_3], .int .i64 x3_1, .int .i64 x4_3] rfl (by (try simp only [List.map_toArray, List.map_cons, List.map_nil]); first | done | rfl | (simp only [List.length_drop, List.length_take]; rfl)) ?_; (with_reducible refine (spec_l1Add.calls a0_0 _ _ l0_1 _ _ l0_2 _ _ l0_3 x3_1 x4_3 t569 _ ?side1 ?side2 ?side3 ?side4 ?side5 ?side6 A17.out).mono ?_); (case side1 => repeat (first | exact (Kd.C_below HR0_1.out HB.out) | (with_reducible refine Kd.C_alloc ?_ _) | (with_reducible refine Kd.C_drewN ?_ _) | (with_reducible refine Kd.C_drew ?_))); (case side2 => exact HC0_1.out); (case side3 => repeat (first | exact (Kd.C_below HR0_2.out HB.out) | (with_reducible refine Kd.C_alloc ?_ _) | (with_reducible refine Kd.C_drewN ?_ _) | (with_reducible refine Kd.C_drew ?_))); (case side4 => exact HC0_2.out); (case side5 => repeat (first | exact (Kd.C_below HR0_3.out HB.out) | (with_reducible refine Kd.C_alloc ?_ _) | (with_reducible refine Kd.C_drewN ?_ _) | (with_reducible refine Kd.C_drew ?_))); (case side6 => exact HC0_3.out); rintro e w53 ⟨rfl, hb⟩; refine ⟨_, rfl, ?_⟩; have n0_ := Aside0.mk (blk_below (g := gb566) (o := .cells #[.int .i64 a0_0, .slice A0_1 l0_1.length c0_1, .slice A0_2 l0_2.length c0_2, .slice A0_3 l0_3.length c0_3] 28 (0, 0)) (by (with_reducible repeat (first | refine blk_drewN ?_ _ | refine blk_drew ?_ | refine blk_alloc ?_ _)); exact BK566.out) hb); have n1_ := Aside0.mk (below_step (by repeat (first | (with_reducible first | exact HB.out | apply below_alloc | apply pw_below_drewN | apply below_drew1 | refine below_set ?_ GE566.out) | exact HB.out)) hb); clear BK566; clear HB; have BK566 := n0_; have HB := n1_; clear n0_ n1_; (try clear hb); (try clear hb2); (try clear hk); (try clear hi); have hcz54_0 : w53.cell? ⟨gb566, 0, none⟩ = some (.int .i64 a0_0) := (blk_cell BK566.out 0).trans rfl; have hcz54_1 : w53.cell? ⟨gb566, 1, none⟩ = some (.slice A0_1 l0_1.length c0_1) := (blk_cell BK566.out 1).trans rfl; have hcz54_2 : w53.cell? ⟨gb566, 2, none⟩ = some (.slice A0_2 l0_2.length c0_2) := (blk_cell BK566.out 2).trans rfl; have hcz54_3 : w53.cell? ⟨gb566, 3, none⟩ = some (.slice A0_3 l0_3.length c0_3) := (blk_cell BK566.out 3).trans rfl; have hfz54_0 := blk_frozen BK566.out 0; have hfz54_1 := blk_frozen BK566.out 1; have hfz54_2 := blk_frozen BK566.out 2; have hfz54_3 := blk_frozen BK566.out 3) | (go_at_call 65; (with_reducible refine (spec_l1Mul.calls a0_0 _ _ l0_1 _ _ l0_2 _ _ l0_3 x3_1 x4_3 t571 _ ?side1 ?side2 ?side3 ?side4 ?side5 ?side6 A39.out).mono ?_); (case side1 => repeat (first | exact (Kd.C_below HR0_1.out HB.out) | (with_reducible refine Kd.C_alloc ?_ _) | (with_reducible refine Kd.C_drewN ?_ _) | (with_reducible refine Kd.C_drew ?_))); (case side2 => exact HC0_1.out); (case side3 => repeat (first | exact (Kd.C_below HR0_2.out HB.out) | (with_reducible refine Kd.C_alloc ?_ _) | (with_reducible refine Kd.C_drewN ?_ _) | (with_reducible refine Kd.C_drew ?_))); (case side4 => exact HC0_2.out); (case side5 => repeat (first | exact (Kd.C_below HR0_3.out HB.out) | (with_reducible refine Kd.C_alloc ?_ _) | (with_reducible refine Kd.C_drewN ?_ _) | (with_reducible refine Kd.C_drew ?_))); (case side6 => exact HC0_3.out); rintro e w55 ⟨rfl, hb⟩; have n0_ := Aside0.mk (blk_below (g := gb566) (o := .cells #[.int .i64 a0_0, .slice A0_1 l0_1.length c0_1, .slice A0_2 l0_2.length c0_2, .slice A0_3 l0_3.length c0_3] 28 (0, 0)) (by (with_reducible repeat (first | refine blk_drewN ?_ _ | refine blk_drew ?_ | refine blk_alloc ?_ _)); exact BK566.out) hb); have n1_ := Aside0.mk (below_step (by repeat (first | (with_reducible first | exact HB.out | apply below_alloc | apply pw_below_drewN | apply below_drew1 | refine below_set ?_ GE566.out) | exact HB.out)) hb); clear BK566; clear HB; have BK566 := n0_; have HB := n1_; clear n0_ n1_; (try clear hb); (try clear hb2); (try clear hk); (try clear hi)))
                          go_roundg k3
                          case measure => have := HK1.out; have := HJ8.out; have := HK3.out; omega
                          case rel => exact ⟨(wrap64 (x4_3 + 1)), (by first | rfl | (simp; done) | (simp [*]; done)), H', ⟨by have := HK1.out; have := HJ8.out; have := HK3.out; omega⟩, ⟨by (with_reducible repeat (first | refine blk_drewN ?_ _ | refine blk_drew ?_ | refine blk_alloc ?_ _)); exact BK566.out⟩, ⟨by repeat (first | (with_reducible first | exact HB.out | apply below_alloc | apply pw_below_drewN | apply below_drew1 | refine below_set ?_ GE566.out) | exact HB.out)⟩⟩
                    · rw [if_neg c16] at H
                      have c16b0 : decide (x4_3 < a0_0) = false := decide_eq_false c16
                      clear c16
                      have H' := Aside0.mk H
                      clear H
                      have hcz56_0 : wr.cell? ⟨gb566, 0, none⟩ = some (.int .i64 a0_0) := (blk_cell BK566.out 0).trans rfl
                      have hcz56_1 : wr.cell? ⟨gb566, 1, none⟩ = some (.slice A0_1 l0_1.length c0_1) := (blk_cell BK566.out 1).trans rfl
                      have hcz56_2 : wr.cell? ⟨gb566, 2, none⟩ = some (.slice A0_2 l0_2.length c0_2) := (blk_cell BK566.out 2).trans rfl
                      have hcz56_3 : wr.cell? ⟨gb566, 3, none⟩ = some (.slice A0_3 l0_3.length c0_3) := (blk_cell BK566.out 3).trans rfl
                      have hfz56_0 := blk_frozen BK566.out 0
                      have hfz56_1 := blk_frozen BK566.out 1
                      have hfz56_2 := blk_frozen BK566.out 2
                      have hfz56_3 := blk_frozen BK566.out 3
                      go_wp2
                      go_roundg k3
                      case measure => have := HK1.out; have := HJ8.out; have := HK3.out; omega
                      case rel => exact ⟨(wrap64 (x3_1 + 1)), (by first | rfl | (simp; done) | (simp [*]; done)), H', ⟨by have := HK1.out; have := HJ8.out; have := HK3.out; omega⟩, ⟨by (with_reducible repeat (first | refine blk_drewN ?_ _ | refine blk_drew ?_ | refine blk_alloc ?_ _)); exact BK566.out⟩, ⟨by repeat (first | (with_reducible first | exact HB.out | apply below_alloc | apply pw_below_drewN | apply below_drew1 | refine below_set ?_ GE566.out) | exact HB.out)⟩⟩
        · rw [if_neg c8] at H
          have c8b0 : decide (x3_1 < a0_0) = false := decide_eq_false c8
          clear c8
          (first | rw [c8b0] | (simp only [i64_w, i32_w]; rw [c8b0]) | skip)
          obtain rfl := Option.some.inj H
          have hcz57_0 : wr.cell? ⟨gb566, 0, none⟩ = some (.int .i64 a0_0) := (blk_cell BK566.out 0).trans rfl
          have hcz57_1 : wr.cell? ⟨gb566, 1, none⟩ = some (.slice A0_1 l0_1.length c0_1) := (blk_cell BK566.out 1).trans rfl
          have hcz57_2 : wr.cell? ⟨gb566, 2, none⟩ = some (.slice A0_2 l0_2.length c0_2) := (blk_cell BK566.out 2).trans rfl
          have hcz57_3 : wr.cell? ⟨gb566, 3, none⟩ = some (.slice A0_3 l0_3.length c0_3) := (blk_cell BK566.out 3).trans rfl
          have hfz57_0 := blk_frozen BK566.out 0
          have hfz57_1 := blk_frozen BK566.out 1
          have hfz57_2 := blk_frozen BK566.out 2
          have hfz57_3 := blk_frozen BK566.out 3
          go_wp2
          go_ret
          exact ⟨by first | rfl | (simp [errW_none, errW_some] <;> rfl) | (simp [*, errW_none, errW_some] <;> rfl), by repeat (first | (with_reducible first | exact HB.out | apply below_alloc | apply pw_below_drewN | apply below_drew1 | refine below_set ?_ GE566.out) | exact HB.out)⟩
  · replace c7 := Bool.eq_false_iff.mpr c7
    subst c7
    have H1 : (some false) = some r := by rw [if_neg (show ¬ (false = true) by decide)] at H; exact H
    clear H
    have H := H1
    clear H1
    obtain rfl := Option.some.inj H
    go_wp2
    go_ret
    exact ⟨by first | rfl | (simp [errW_none, errW_some] <;> rfl) | (simp [*, errW_none, errW_some] <;> rfl), by repeat (first | (with_reducible first | exact HB.out | apply below_alloc | apply pw_below_drewN | apply below_drew1 | refine below_set ?_ GE566.out) | exact HB.out)⟩

end Go.Proofs.Ythdbijjkcoafiaa.P
