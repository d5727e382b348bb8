-- Printed by this session's own program (wip/tools/mkprint.py) out of the translation. Not trusted: Lean checks it.
import Derived.Test.YthdbijjkcoafiaaP0
import Derived.Test.YthdbijjkcoafiaaPf18
import Derived.Test.YthdbijjkcoafiaaPf53
import Derived.Test.YthdbijjkcoafiaaPf54
import Derived.Test.YthdbijjkcoafiaaPf55
namespace Go.Proofs.Ythdbijjkcoafiaa.P
open Go.RowKit Go.Proofs.YthdbijjkcoafiaaW.PrintWords Go.Proofs.YthdbijjkcoafiaaW.PrintLast Go.Proofs.YthdbijjkcoafiaaW.PrintMore
attribute [local go_sem] max2_int min2_int max_two min_two max_three min_three max_four min_four   -- for this text's walks alone
set_option linter.unusedVariables false
set_option linter.unusedSimpArgs false

/-! ### impl_IsReliable: function 33 -/
mutual
def impl_IsReliable.l0 : Nat → Int → Int → List Int → List Int → List Bool → Option (Bool)
  | 0, _, _, _, _, _ => none
  | k + 1, x3, x573000, x573001, x573002, x573003 => if x3 < x573000 then (if x3 = 0 then (impl_IsReliable.j1 k x3 false x573000 x573001 x573002 x573003) else ((impl_System_below.f x573000 x573001 x573002 x573003 x3 0).bind fun t574 => (impl_IsReliable.j1 k x3 t574 x573000 x573001 x573002 x573003))) else (some true)
def impl_IsReliable.j1 : Nat → Int → Bool → Int → List Int → List Int → List Bool → Option (Bool)
  | 0, _, _, _, _, _, _ => none
  | k + 1, x3, x20, x573000, x573001, x573002, x573003 => if x20 = true then (some false) else (impl_IsReliable.l1 k x3 0 x573000 x573001 x573002 x573003)
def impl_IsReliable.l1 : Nat → Int → Int → Int → List Int → List Int → List Bool → Option (Bool)
  | 0, _, _, _, _, _, _ => none
  | k + 1, x3, x4, x573000, x573001, x573002, x573003 => if x4 < x573000 then ((impl_System_plus.f x573000 x573001 x573002 x573003 x3 x4).bind fun t575 => (if t575 = 0 then (if x3 = 0 then (if x4 = 0 then ((impl_System_times.f x573000 x573001 x573002 x573003 x3 x4).bind fun t576 => (if t576 = 0 then (impl_IsReliable.l1 k x3 (wrap64 (x4 + 1)) x573000 x573001 x573002 x573003) else (impl_IsReliable.l1 k x3 (wrap64 (x4 + 1)) x573000 x573001 x573002 x573003))) else (some false)) else (some false)) else ((impl_System_times.f x573000 x573001 x573002 x573003 x3 x4).bind fun t577 => (if t577 = 0 then (if x3 = 0 then (impl_IsReliable.l1 k x3 (wrap64 (x4 + 1)) x573000 x573001 x573002 x573003) else (if x4 = 0 then (impl_IsReliable.l1 k x3 (wrap64 (x4 + 1)) x573000 x573001 x573002 x573003) else (some false))) else (impl_IsReliable.l1 k x3 (wrap64 (x4 + 1)) x573000 x573001 x573002 x573003))))) else (impl_IsReliable.l0 k (wrap64 (x3 + 1)) x573000 x573001 x573002 x573003)
end
def impl_IsReliable.f (k : Nat) (a0_0 : Int) (l0_1 : List Int) (l0_2 : List Int) (l0_3 : List Bool) : Option (Bool) := (impl_IsSystem.f k a0_0 l0_1 l0_2 l0_3).bind fun t573 => (if t573 = true then (impl_IsReliable.l0 k 0 a0_0 l0_1 l0_2 l0_3) else (some false))
set_option maxHeartbeats 8000000 in
set_option maxRecDepth 100000 in
theorem impl_IsReliable.calls (k : Nat) (a0_0 : Int) (A0_1 : Option Addr) (c0_1 : Nat) (l0_1 : List Int) (A0_2 : Option Addr) (c0_2 : Nat) (l0_2 : List Int) (A0_3 : Option Addr) (c0_3 : Nat) (l0_3 : List Bool) (r : Bool) (w : World) (hr0_1 : Kd.C (Kd.int .i64) w A0_1 l0_1.length l0_1) (hc0_1 : l0_1.length ≤ c0_1) (hr0_2 : Kd.C (Kd.int .i64) w A0_2 l0_2.length l0_2) (hc0_2 : l0_2.length ≤ c0_2) (hr0_3 : Kd.C Kd.bool w A0_3 l0_3.length l0_3) (hc0_3 : l0_3.length ≤ c0_3) (h : impl_IsReliable.f k a0_0 l0_1 l0_2 l0_3 = some r) :
    Calls Try.prog 33 #[.agg #[.int .i64 a0_0, .slice A0_1 l0_1.length c0_1, .slice A0_2 l0_2.length c0_2, .slice A0_3 l0_3.length c0_3]] w fun e w' => e = .returned (.bool r) ∧ Below w.heap.size w w' := by
  have hu28 := Try.underlying28
  have HR0_1 := Aside0.mk hr0_1
  have HC0_1 := Aside0.mk hc0_1
  clear hr0_1 hc0_1
  have HR0_2 := Aside0.mk hr0_2
  have HC0_2 := Aside0.mk hc0_2
  clear hr0_2 hc0_2
  have HR0_3 := Aside0.mk hr0_3
  have HC0_3 := Aside0.mk hc0_3
  clear hr0_3 hc0_3
  have HB := Aside0.mk (Below.refl w.heap.size w)
  have H : ((impl_IsSystem.f k a0_0 l0_1 l0_2 l0_3).bind fun t573 => (if t573 = true then (impl_IsReliable.l0 k 0 a0_0 l0_1 l0_2 l0_3) else (some false))) = some r := h
  clear h
  replace H := Option.bind_eq_some_iff.mp H
  obtain ⟨t573, A20, H⟩ := H
  replace H : (if t573 = true then (impl_IsReliable.l0 k 0 a0_0 l0_1 l0_2 l0_3) else (some false)) = some r := H
  have A2 := Aside0.mk A20
  clear A20
  have HP3 := Aside0.mk H
  clear H
  go_enter Try.func33, Try.ntmps33
  go_upto_if 7 with (first | ((with_reducible refine gate_dst (N := 1) rfl ?_); refine box_event ?hg (N := 1) ?hd (cs := #[.int .i64 a0_0, .slice A0_1 l0_1.length c0_1, .slice A0_2 l0_2.length c0_2, .slice A0_3 l0_3.length c0_3]) (t := 28) ?hr ?_; (case hd => rfl); (case hg => rfl); (case hr => first | (go_simp; done) | (go_simp; rfl)); intro gb572 hg w4 hbox hb; have n0_ := Aside0.mk (below_step (by repeat (first | (with_reducible first | exact HB.out | apply below_alloc | apply pw_below_drewN | apply below_drew1) | exact HB.out)) hb); have n1_ := Aside0.mk (hbox); have n2_ := Aside0.mk ((by rw [hg]; exact (below_size (by repeat (first | (with_reducible first | exact HB.out | apply below_alloc | apply pw_below_drewN | apply below_drew1) | exact HB.out))) : w.heap.size ≤ gb572)); have n3_ := Aside0.mk ((by rw [hg]; exact (below_size (by repeat (first | (with_reducible first | exact HB.out | apply below_alloc | apply pw_below_drewN | apply below_drew1) | exact HB.out))) : w.heap.size ≤ gb572)); clear HB; have HB := n0_; have BK572 := n1_; have GW572 := n2_; have GE572 := n3_; clear n0_ n1_ n2_ n3_; clear hb hbox hg; have hcz5_0 : w4.cell? ⟨gb572, 0, none⟩ = some (.int .i64 a0_0) := (blk_cell BK572.out 0).trans rfl; have hcz5_1 : w4.cell? ⟨gb572, 1, none⟩ = some (.slice A0_1 l0_1.length c0_1) := (blk_cell BK572.out 1).trans rfl; have hcz5_2 : w4.cell? ⟨gb572, 2, none⟩ = some (.slice A0_2 l0_2.length c0_2) := (blk_cell BK572.out 2).trans rfl; have hcz5_3 : w4.cell? ⟨gb572, 3, none⟩ = some (.slice A0_3 l0_3.length c0_3) := (blk_cell BK572.out 3).trans rfl; have hfz5_0 := blk_frozen BK572.out 0; have hfz5_1 := blk_frozen BK572.out 1; have hfz5_2 := blk_frozen BK572.out 2; have hfz5_3 := blk_frozen BK572.out 3) | ((with_reducible refine gate_callee (f := 18) rfl ?_); refine goesL_ (some 6) rfl rfl Try.func18 (by kernel_rfl) rfl #[.agg #[.int .i64 a0_0, .slice A0_1 l0_1.length c0_1, .slice A0_2 l0_2.length c0_2, .slice A0_3 l0_3.length c0_3]] rfl (by (try simp only [List.map_toArray, List.map_cons, List.map_nil]); first | done | rfl | (simp only [List.length_drop, List.length_take]; rfl)) ?_; (with_reducible refine (impl_IsSystem.calls k a0_0 _ _ l0_1 _ _ l0_2 _ _ l0_3 t573 _ ?side1 ?side2 ?side3 ?side4 ?side5 ?side6 A2.out).mono ?_); (case side1 => repeat (first | exact (Kd.C_below HR0_1.out HB.out) | (with_reducible refine Kd.C_alloc ?_ _) | (with_reducible refine Kd.C_drewN ?_ _) | (with_reducible refine Kd.C_drew ?_))); (case side2 => exact HC0_1.out); (case side3 => repeat (first | exact (Kd.C_below HR0_2.out HB.out) | (with_reducible refine Kd.C_alloc ?_ _) | (with_reducible refine Kd.C_drewN ?_ _) | (with_reducible refine Kd.C_drew ?_))); (case side4 => exact HC0_2.out); (case side5 => repeat (first | exact (Kd.C_below HR0_3.out HB.out) | (with_reducible refine Kd.C_alloc ?_ _) | (with_reducible refine Kd.C_drewN ?_ _) | (with_reducible refine Kd.C_drew ?_))); (case side6 => exact HC0_3.out); rintro e w6 ⟨rfl, hb⟩; refine ⟨_, rfl, ?_⟩; have n0_ := Aside0.mk (blk_below (g := gb572) (o := .cells #[.int .i64 a0_0, .slice A0_1 l0_1.length c0_1, .slice A0_2 l0_2.length c0_2, .slice A0_3 l0_3.length c0_3] 28 (0, 0)) (by (with_reducible repeat (first | refine blk_drewN ?_ _ | refine blk_drew ?_ | refine blk_alloc ?_ _)); exact BK572.out) hb); have n1_ := Aside0.mk (below_step (by repeat (first | (with_reducible first | exact HB.out | apply below_alloc | apply pw_below_drewN | apply below_drew1 | refine below_set ?_ GE572.out) | exact HB.out)) hb); clear BK572; clear HB; have BK572 := n0_; have HB := n1_; clear n0_ n1_; (try clear hb); (try clear hb2); (try clear hk); (try clear hi)))
  have H := HP3.out
  clear HP3
  by_cases c7 : t573 = true
  · subst c7
    have H1 : (impl_IsReliable.l0 k 0 a0_0 l0_1 l0_2 l0_3) = some r := by rw [if_pos rfl] at H; exact H
    clear H
    have H := H1
    clear H1
    have H' := Aside0.mk H
    clear H
    go_wp2
    go_loopg [3] k (fun kq v3 w' => ∃ (x3_1 : Int), v3 = .int .i64 x3_1 ∧ Aside0 (impl_IsReliable.l0 kq x3_1 a0_0 l0_1 l0_2 l0_3 = some r) ∧ Aside0 (kq ≤ k) ∧ Aside0 (w'.heap[gb572]? = some (.cells #[.int .i64 a0_0, (.slice A0_1 l0_1.length c0_1), (.slice A0_2 l0_2.length c0_2), (.slice A0_3 l0_3.length c0_3)] 28 (0, 0))) ∧ Aside0 (Below w.heap.size w w'))
    case atStart => exact ⟨(0), (by first | rfl | (simp; done) | (simp [*]; done)), H', ⟨Nat.le_refl _⟩, ⟨by (with_reducible repeat (first | refine blk_drewN ?_ _ | refine blk_drew ?_ | refine blk_alloc ?_ _)); exact BK572.out⟩, ⟨by repeat (first | (with_reducible first | exact HB.out | apply below_alloc | apply pw_below_drewN | apply below_drew1 | refine below_set ?_ GE572.out) | exact HB.out)⟩⟩
    case round =>
      clear H'
      try clear c1
      try clear p2
      try clear c3
      try clear c7
      try clear hcz5_0
      try clear hcz5_1
      try clear hcz5_2
      try clear hcz5_3
      try clear hfz5_0
      try clear hfz5_1
      try clear hfz5_2
      try clear hfz5_3
      obtain ⟨x3_1, rfl, HA, HK1, BK572, HB⟩ := hrel
      cases gk with
      | zero => exact absurd HA.out (by simp [impl_IsReliable.l0])
      | succ k1 =>
        have H := HA.out
        clear HA
        simp only [impl_IsReliable.l0] at H
        by_cases c8 : x3_1 < a0_0
        · rw [if_pos c8] at H
          have c8b0 : decide (x3_1 < a0_0) = true := decide_eq_true c8
          clear c8
          (first | rw [c8b0] | (simp only [i64_w, i32_w]; rw [c8b0]) | skip)
          have HC9 := Aside0.mk H
          clear H
          have hcz10_0 : wr.cell? ⟨gb572, 0, none⟩ = some (.int .i64 a0_0) := (blk_cell BK572.out 0).trans rfl
          have hcz10_1 : wr.cell? ⟨gb572, 1, none⟩ = some (.slice A0_1 l0_1.length c0_1) := (blk_cell BK572.out 1).trans rfl
          have hcz10_2 : wr.cell? ⟨gb572, 2, none⟩ = some (.slice A0_2 l0_2.length c0_2) := (blk_cell BK572.out 2).trans rfl
          have hcz10_3 : wr.cell? ⟨gb572, 3, none⟩ = some (.slice A0_3 l0_3.length c0_3) := (blk_cell BK572.out 3).trans rfl
          have hfz10_0 := blk_frozen BK572.out 0
          have hfz10_1 := blk_frozen BK572.out 1
          have hfz10_2 := blk_frozen BK572.out 2
          have hfz10_3 := blk_frozen BK572.out 3
          go_upto_region 6 with (fail)
          go_cut [20] (fun v20 wc => ∃ (kq : Nat) (x20_8 : Bool), v20 = .bool x20_8 ∧ Aside0 (impl_IsReliable.j1 kq x3_1 x20_8 a0_0 l0_1 l0_2 l0_3 = some r) ∧ Aside0 (kq ≤ k1) ∧ Aside0 (wc.heap[gb572]? = some (.cells #[.int .i64 a0_0, (.slice A0_1 l0_1.length c0_1), (.slice A0_2 l0_2.length c0_2), (.slice A0_3 l0_3.length c0_3)] 28 (0, 0))) ∧ Aside0 (Below w.heap.size w wc))
          case first =>
            have H := HC9.out
            clear HC9
            by_cases c11 : x3_1 = 0
            · rw [if_pos c11] at H
              have c11b0 : (x3_1 == 0) = true := beq_iff_eq.mpr c11
              have c11b1 : (x3_1 != 0) = false := bne_eq_false_iff_eq.mpr c11
              clear c11
              (first | rw [c11b0] | (simp only [i64_w, i32_w]; rw [c11b0]) | skip)
              have H' := Aside0.mk H
              clear H
              go_wp2
              go_meet
              case rel => exact ⟨_, (false), (by first | rfl | (simp; done) | (simp [*]; done)), H', ⟨by have := HK1.out; first | omega | exact Nat.le_refl _⟩, ⟨by (with_reducible repeat (first | refine blk_drewN ?_ _ | refine blk_drew ?_ | refine blk_alloc ?_ _)); exact BK572.out⟩, ⟨by repeat (first | (with_reducible first | exact HB.out | apply below_alloc | apply pw_below_drewN | apply below_drew1 | refine below_set ?_ GE572.out) | exact HB.out)⟩⟩
            · rw [if_neg c11] at H
              have c11b0 : (x3_1 == 0) = false := beq_eq_false_iff_ne.mpr c11
              have c11b1 : (x3_1 != 0) = true := bne_iff_ne.mpr c11
              (first | rw [c11b0] | (simp only [i64_w, i32_w]; rw [c11b0]) | skip)
              replace H := Option.bind_eq_some_iff.mp H
              obtain ⟨t574, A120, H⟩ := H
              replace H : (impl_IsReliable.j1 k1 x3_1 t574 a0_0 l0_1 l0_2 l0_3) = some r := H
              have A12 := Aside0.mk A120
              clear A120
              have H' := Aside0.mk H
              clear H
              have hcz13_0 : wr.cell? ⟨gb572, 0, none⟩ = some (.int .i64 a0_0) := (blk_cell BK572.out 0).trans rfl
              have hcz13_1 : wr.cell? ⟨gb572, 1, none⟩ = some (.slice A0_1 l0_1.length c0_1) := (blk_cell BK572.out 1).trans rfl
              have hcz13_2 : wr.cell? ⟨gb572, 2, none⟩ = some (.slice A0_2 l0_2.length c0_2) := (blk_cell BK572.out 2).trans rfl
              have hcz13_3 : wr.cell? ⟨gb572, 3, none⟩ = some (.slice A0_3 l0_3.length c0_3) := (blk_cell BK572.out 3).trans rfl
              have hfz13_0 := blk_frozen BK572.out 0
              have hfz13_1 := blk_frozen BK572.out 1
              have hfz13_2 := blk_frozen BK572.out 2
              have hfz13_3 := blk_frozen BK572.out 3
              go_wp2_with (first | (go_at_call 55; (with_reducible refine (impl_System_below.calls a0_0 _ _ l0_1 _ _ l0_2 _ _ l0_3 x3_1 0 t574 _ ?side1 ?side2 ?side3 ?side4 ?side5 ?side6 A12.out).mono ?_); (case side1 => repeat (first | exact (Kd.C_below HR0_1.out HB.out) | (with_reducible refine Kd.C_alloc ?_ _) | (with_reducible refine Kd.C_drewN ?_ _) | (with_reducible refine Kd.C_drew ?_))); (case side2 => exact HC0_1.out); (case side3 => repeat (first | exact (Kd.C_below HR0_2.out HB.out) | (with_reducible refine Kd.C_alloc ?_ _) | (with_reducible refine Kd.C_drewN ?_ _) | (with_reducible refine Kd.C_drew ?_))); (case side4 => exact HC0_2.out); (case side5 => repeat (first | exact (Kd.C_below HR0_3.out HB.out) | (with_reducible refine Kd.C_alloc ?_ _) | (with_reducible refine Kd.C_drewN ?_ _) | (with_reducible refine Kd.C_drew ?_))); (case side6 => exact HC0_3.out); rintro e w14 ⟨rfl, hb⟩; have n0_ := Aside0.mk (blk_below (g := gb572) (o := .cells #[.int .i64 a0_0, .slice A0_1 l0_1.length c0_1, .slice A0_2 l0_2.length c0_2, .slice A0_3 l0_3.length c0_3] 28 (0, 0)) (by (with_reducible repeat (first | refine blk_drewN ?_ _ | refine blk_drew ?_ | refine blk_alloc ?_ _)); exact BK572.out) hb); have n1_ := Aside0.mk (below_step (by repeat (first | (with_reducible first | exact HB.out | apply below_alloc | apply pw_below_drewN | apply below_drew1 | refine below_set ?_ GE572.out) | exact HB.out)) hb); clear BK572; clear HB; have BK572 := n0_; have HB := n1_; clear n0_ n1_; (try clear hb); (try clear hb2); (try clear hk); (try clear hi)))
              go_meet
              case rel => exact ⟨_, (t574), (by first | rfl | (simp; done) | (simp [*]; done)), H', ⟨by have := HK1.out; first | omega | exact Nat.le_refl _⟩, ⟨by (with_reducible repeat (first | refine blk_drewN ?_ _ | refine blk_drew ?_ | refine blk_alloc ?_ _)); exact BK572.out⟩, ⟨by repeat (first | (with_reducible first | exact HB.out | apply below_alloc | apply pw_below_drewN | apply below_drew1 | refine below_set ?_ GE572.out) | exact HB.out)⟩⟩
          case rest =>
            clear HC9
            try clear c1
            try clear p2
            try clear c3
            try clear c7
            try clear c8
            try clear c8b0
            try clear hcz10_0
            try clear hcz10_1
            try clear hcz10_2
            try clear hcz10_3
            try clear hcz5_0
            try clear hcz5_1
            try clear hcz5_2
            try clear hcz5_3
            try clear hfz10_0
            try clear hfz10_1
            try clear hfz10_2
            try clear hfz10_3
            try clear hfz5_0
            try clear hfz5_1
            try clear hfz5_2
            try clear hfz5_3
            try clear p2
            obtain ⟨kq, x20_8, rfl, HA, HJ8, BK572, HB⟩ := hcut
            cases kq with
            | zero => exact absurd HA.out (by simp [impl_IsReliable.j1])
            | succ kj8 =>
              have H := HA.out
              clear HA
              simp only [impl_IsReliable.j1] at H
              by_cases c15 : x20_8 = true
              · subst c15
                have H1 : (some false) = some r := by rw [if_pos rfl] at H; exact H
                clear H
                have H := H1
                clear H1
                obtain rfl := Option.some.inj H
                go_wp2
                go_ret
                exact ⟨by first | rfl | (simp [errW_none, errW_some] <;> rfl) | (simp [*, errW_none, errW_some] <;> rfl), by repeat (first | (with_reducible first | exact HB.out | apply below_alloc | apply pw_below_drewN | apply below_drew1 | refine below_set ?_ GE572.out) | exact HB.out)⟩
              · replace c15 := Bool.eq_false_iff.mpr c15
                subst c15
                have H1 : (impl_IsReliable.l1 kj8 x3_1 0 a0_0 l0_1 l0_2 l0_3) = some r := by rw [if_neg (show ¬ (false = true) by decide)] at H; exact H
                clear H
                have H := H1
                clear H1
                have H' := Aside0.mk H
                clear H
                go_wp2
                go_loopg [4] kj8 (fun kq v4 w' => ∃ (x4_3 : Int), v4 = .int .i64 x4_3 ∧ Aside0 (impl_IsReliable.l1 kq x3_1 x4_3 a0_0 l0_1 l0_2 l0_3 = some r) ∧ Aside0 (kq ≤ kj8) ∧ Aside0 (w'.heap[gb572]? = some (.cells #[.int .i64 a0_0, (.slice A0_1 l0_1.length c0_1), (.slice A0_2 l0_2.length c0_2), (.slice A0_3 l0_3.length c0_3)] 28 (0, 0))) ∧ Aside0 (Below w.heap.size w w'))
                case atStart => exact ⟨(0), (by first | rfl | (simp; done) | (simp [*]; done)), H', ⟨Nat.le_refl _⟩, ⟨by (with_reducible repeat (first | refine blk_drewN ?_ _ | refine blk_drew ?_ | refine blk_alloc ?_ _)); exact BK572.out⟩, ⟨by repeat (first | (with_reducible first | exact HB.out | apply below_alloc | apply pw_below_drewN | apply below_drew1 | refine below_set ?_ GE572.out) | exact HB.out)⟩⟩
                case round =>
                  clear H'
                  try clear c1
                  try clear p2
                  try clear c3
                  try clear c7
                  try clear c8
                  try clear c8b0
                  try clear c15
                  try clear hcz10_0
                  try clear hcz10_1
                  try clear hcz10_2
                  try clear hcz10_3
                  try clear hcz5_0
                  try clear hcz5_1
                  try clear hcz5_2
                  try clear hcz5_3
                  try clear hfz10_0
                  try clear hfz10_1
                  try clear hfz10_2
                  try clear hfz10_3
                  try clear hfz5_0
                  try clear hfz5_1
                  try clear hfz5_2
                  try clear hfz5_3
                  try clear p2
                  obtain ⟨x4_3, rfl, HA, HK3, BK572, HB⟩ := hrel
                  cases gk with
                  | zero => exact absurd HA.out (by simp [impl_IsReliable.l1])
                  | succ k3 =>
                    have H := HA.out
                    clear HA
                    simp only [impl_IsReliable.l1] at H
                    by_cases c16 : x4_3 < a0_0
                    · rw [if_pos c16] at H
                      have c16b0 : decide (x4_3 < a0_0) = true := decide_eq_true c16
                      clear c16
                      replace H := Option.bind_eq_some_iff.mp H
                      obtain ⟨t575, A170, H⟩ := H
                      replace H : (if t575 = 0 then (if x3_1 = 0 then (if x4_3 = 0 then ((impl_System_times.f a0_0 l0_1 l0_2 l0_3 x3_1 x4_3).bind fun t576 => (if t576 = 0 then (impl_IsReliable.l1 k3 x3_1 (wrap64 (x4_3 + 1)) a0_0 l0_1 l0_2 l0_3) else (impl_IsReliable.l1 k3 x3_1 (wrap64 (x4_3 + 1)) a0_0 l0_1 l0_2 l0_3))) else (some false)) else (some false)) else ((impl_System_times.f a0_0 l0_1 l0_2 l0_3 x3_1 x4_3).bind fun t577 => (if t577 = 0 then (if x3_1 = 0 then (impl_IsReliable.l1 k3 x3_1 (wrap64 (x4_3 + 1)) a0_0 l0_1 l0_2 l0_3) else (if x4_3 = 0 then (impl_IsReliable.l1 k3 x3_1 (wrap64 (x4_3 + 1)) a0_0 l0_1 l0_2 l0_3) else (some false))) else (impl_IsReliable.l1 k3 x3_1 (wrap64 (x4_3 + 1)) a0_0 l0_1 l0_2 l0_3)))) = some r := H
                      have A17 := Aside0.mk A170
                      clear A170
                      by_cases c18 : t575 = 0
                      · rw [if_pos c18] at H
                        have c18b0 : (t575 == 0) = true := beq_iff_eq.mpr c18
                        have c18b1 : (t575 != 0) = false := bne_eq_false_iff_eq.mpr c18
                        clear c18
                        by_cases c19 : x3_1 = 0
                        · rw [if_pos c19] at H
                          have c19b0 : (x3_1 == 0) = true := beq_iff_eq.mpr c19
                          have c19b1 : (x3_1 != 0) = false := bne_eq_false_iff_eq.mpr c19
                          clear c19
                          by_cases c20 : x4_3 = 0
                          · rw [if_pos c20] at H
                            have c20b0 : (x4_3 == 0) = true := beq_iff_eq.mpr c20
                            have c20b1 : (x4_3 != 0) = false := bne_eq_false_iff_eq.mpr c20
                            clear c20
                            replace H := Option.bind_eq_some_iff.mp H
                            obtain ⟨t576, A210, H⟩ := H
                            replace H : (if t576 = 0 then (impl_IsReliable.l1 k3 x3_1 (wrap64 (x4_3 + 1)) a0_0 l0_1 l0_2 l0_3) else (impl_IsReliable.l1 k3 x3_1 (wrap64 (x4_3 + 1)) a0_0 l0_1 l0_2 l0_3)) = some r := H
                            have A21 := Aside0.mk A210
                            clear A210
                            by_cases c22 : t576 = 0
                            · rw [if_pos c22] at H
                              have c22b0 : (t576 == 0) = true := beq_iff_eq.mpr c22
                              have c22b1 : (t576 != 0) = false := bne_eq_false_iff_eq.mpr c22
                              clear c22
                              have H' := Aside0.mk H
                              clear H
                              have hcz23_0 : wr.cell? ⟨gb572, 0, none⟩ = some (.int .i64 a0_0) := (blk_cell BK572.out 0).trans rfl
                              have hcz23_1 : wr.cell? ⟨gb572, 1, none⟩ = some (.slice A0_1 l0_1.length c0_1) := (blk_cell BK572.out 1).trans rfl
                              have hcz23_2 : wr.cell? ⟨gb572, 2, none⟩ = some (.slice A0_2 l0_2.length c0_2) := (blk_cell BK572.out 2).trans rfl
                              have hcz23_3 : wr.cell? ⟨gb572, 3, none⟩ = some (.slice A0_3 l0_3.length c0_3) := (blk_cell BK572.out 3).trans rfl
                              have hfz23_0 := blk_frozen BK572.out 0
                              have hfz23_1 := blk_frozen BK572.out 1
                              have hfz23_2 := blk_frozen BK572.out 2
                              have hfz23_3 := blk_frozen BK572.out 3
                              go_wp2_with (first | ((with_reducible refine gate_callee (f := 53) rfl ?_); refine goesL_ (some 30) rfl rfl Try.func53 (by kernel_rfl) rfl #[.agg #[.int .i64 a0_0, .slice A0_1 l0_1.length c0_1, .slice A0_2 l0_2.length c0_2, .slice A0_3 l0_3.length c0_3], .int .i64 x3_1, .int .i64 x4_3] rfl (by (try simp only [List.map_toArray, List.map_cons, List.map_nil]); first | done | rfl | (simp only [List.length_drop, List.length_take]; rfl)) ?_; (with_reducible refine (impl_System_plus.calls a0_0 _ _ l0_1 _ _ l0_2 _ _ l0_3 x3_1 x4_3 t575 _ ?side1 ?side2 ?side3 ?side4 ?side5 ?side6 A17.out).mono ?_); (case side1 => repeat (first | exact (Kd.C_below HR0_1.out HB.out) | (with_reducible refine Kd.C_alloc ?_ _) | (with_reducible refine Kd.C_drewN ?_ _) | (with_reducible refine Kd.C_drew ?_))); (case side2 => exact HC0_1.out); (case side3 => repeat (first | exact (Kd.C_below HR0_2.out HB.out) | (with_reducible refine Kd.C_alloc ?_ _) | (with_reducible refine Kd.C_drewN ?_ _) | (with_reducible refine Kd.C_drew ?_))); (case side4 => exact HC0_2.out); (case side5 => repeat (first | exact (Kd.C_below HR0_3.out HB.out) | (with_reducible refine Kd.C_alloc ?_ _) | (with_reducible refine Kd.C_drewN ?_ _) | (with_reducible refine Kd.C_drew ?_))); (case side6 => exact HC0_3.out); rintro e w24 ⟨rfl, hb⟩; refine ⟨_, rfl, ?_⟩; have n0_ := Aside0.mk (blk_below (g := gb572) (o := .cells #[.int .i64 a0_0, .slice A0_1 l0_1.length c0_1, .slice A0_2 l0_2.length c0_2, .slice A0_3 l0_3.length c0_3] 28 (0, 0)) (by (with_reducible repeat (first | refine blk_drewN ?_ _ | refine blk_drew ?_ | refine blk_alloc ?_ _)); exact BK572.out) hb); have n1_ := Aside0.mk (below_step (by repeat (first | (with_reducible first | exact HB.out | apply below_alloc | apply pw_below_drewN | apply below_drew1 | refine below_set ?_ GE572.out) | exact HB.out)) hb); clear BK572; clear HB; have BK572 := n0_; have HB := n1_; clear n0_ n1_; (try clear hb); (try clear hb2); (try clear hk); (try clear hi); have hcz25_0 : w24.cell? ⟨gb572, 0, none⟩ = some (.int .i64 a0_0) := (blk_cell BK572.out 0).trans rfl; have hcz25_1 : w24.cell? ⟨gb572, 1, none⟩ = some (.slice A0_1 l0_1.length c0_1) := (blk_cell BK572.out 1).trans rfl; have hcz25_2 : w24.cell? ⟨gb572, 2, none⟩ = some (.slice A0_2 l0_2.length c0_2) := (blk_cell BK572.out 2).trans rfl; have hcz25_3 : w24.cell? ⟨gb572, 3, none⟩ = some (.slice A0_3 l0_3.length c0_3) := (blk_cell BK572.out 3).trans rfl; have hfz25_0 := blk_frozen BK572.out 0; have hfz25_1 := blk_frozen BK572.out 1; have hfz25_2 := blk_frozen BK572.out 2; have hfz25_3 := blk_frozen BK572.out 3) | (go_at_call 54; (with_reducible refine (impl_System_times.calls a0_0 _ _ l0_1 _ _ l0_2 _ _ l0_3 x3_1 x4_3 t576 _ ?side1 ?side2 ?side3 ?side4 ?side5 ?side6 A21.out).mono ?_); (case side1 => repeat (first | exact (Kd.C_below HR0_1.out HB.out) | (with_reducible refine Kd.C_alloc ?_ _) | (with_reducible refine Kd.C_drewN ?_ _) | (with_reducible refine Kd.C_drew ?_))); (case side2 => exact HC0_1.out); (case side3 => repeat (first | exact (Kd.C_below HR0_2.out HB.out) | (with_reducible refine Kd.C_alloc ?_ _) | (with_reducible refine Kd.C_drewN ?_ _) | (with_reducible refine Kd.C_drew ?_))); (case side4 => exact HC0_2.out); (case side5 => repeat (first | exact (Kd.C_below HR0_3.out HB.out) | (with_reducible refine Kd.C_alloc ?_ _) | (with_reducible refine Kd.C_drewN ?_ _) | (with_reducible refine Kd.C_drew ?_))); (case side6 => exact HC0_3.out); rintro e w26 ⟨rfl, hb⟩; have n0_ := Aside0.mk (blk_below (g := gb572) (o := .cells #[.int .i64 a0_0, .slice A0_1 l0_1.length c0_1, .slice A0_2 l0_2.length c0_2, .slice A0_3 l0_3.length c0_3] 28 (0, 0)) (by (with_reducible repeat (first | refine blk_drewN ?_ _ | refine blk_drew ?_ | refine blk_alloc ?_ _)); exact BK572.out) hb); have n1_ := Aside0.mk (below_step (by repeat (first | (with_reducible first | exact HB.out | apply below_alloc | apply pw_below_drewN | apply below_drew1 | refine below_set ?_ GE572.out) | exact HB.out)) hb); clear BK572; clear HB; have BK572 := n0_; have HB := n1_; clear n0_ n1_; (try clear hb); (try clear hb2); (try clear hk); (try clear hi)))
                              go_roundg k3
                              case measure => have := HK1.out; have := HJ8.out; have := HK3.out; omega
                              case rel => exact ⟨(wrap64 (x4_3 + 1)), (by first | rfl | (simp; done) | (simp [*]; done)), H', ⟨by have := HK1.out; have := HJ8.out; have := HK3.out; omega⟩, ⟨by (with_reducible repeat (first | refine blk_drewN ?_ _ | refine blk_drew ?_ | refine blk_alloc ?_ _)); exact BK572.out⟩, ⟨by repeat (first | (with_reducible first | exact HB.out | apply below_alloc | apply pw_below_drewN | apply below_drew1 | refine below_set ?_ GE572.out) | exact HB.out)⟩⟩
                            · rw [if_neg c22] at H
                              have c22b0 : (t576 == 0) = false := beq_eq_false_iff_ne.mpr c22
                              have c22b1 : (t576 != 0) = true := bne_iff_ne.mpr c22
                              have H' := Aside0.mk H
                              clear H
                              have hcz27_0 : wr.cell? ⟨gb572, 0, none⟩ = some (.int .i64 a0_0) := (blk_cell BK572.out 0).trans rfl
                              have hcz27_1 : wr.cell? ⟨gb572, 1, none⟩ = some (.slice A0_1 l0_1.length c0_1) := (blk_cell BK572.out 1).trans rfl
                              have hcz27_2 : wr.cell? ⟨gb572, 2, none⟩ = some (.slice A0_2 l0_2.length c0_2) := (blk_cell BK572.out 2).trans rfl
                              have hcz27_3 : wr.cell? ⟨gb572, 3, none⟩ = some (.slice A0_3 l0_3.length c0_3) := (blk_cell BK572.out 3).trans rfl
                              have hfz27_0 := blk_frozen BK572.out 0
                              have hfz27_1 := blk_frozen BK572.out 1
                              have hfz27_2 := blk_frozen BK572.out 2
                              have hfz27_3 := blk_frozen BK572.out 3
                              go_wp2_with (first | ((with_reducible refine gate_callee (f := 53) rfl ?_); refine goesL_ (some 30) rfl rfl Try.func53 (by kernel_rfl) rfl #[.agg #[.int .i64 a0_0, .slice A0_1 l0_1.length c0_1, .slice A0_2 l0_2.length c0_2, .slice A0_3 l0_3.length c0_3], .int .i64 x3_1, .int .i64 x4_3] rfl (by (try simp only [List.map_toArray, List.map_cons, List.map_nil]); first | done | rfl | (simp only [List.length_drop, List.length_take]; rfl)) ?_; (with_reducible refine (impl_System_plus.calls a0_0 _ _ l0_1 _ _ l0_2 _ _ l0_3 x3_1 x4_3 t575 _ ?side1 ?side2 ?side3 ?side4 ?side5 ?side6 A17.out).mono ?_); (case side1 => repeat (first | exact (Kd.C_below HR0_1.out HB.out) | (with_reducible refine Kd.C_alloc ?_ _) | (with_reducible refine Kd.C_drewN ?_ _) | (with_reducible refine Kd.C_drew ?_))); (case side2 => exact HC0_1.out); (case side3 => repeat (first | exact (Kd.C_below HR0_2.out HB.out) | (with_reducible refine Kd.C_alloc ?_ _) | (with_reducible refine Kd.C_drewN ?_ _) | (with_reducible refine Kd.C_drew ?_))); (case side4 => exact HC0_2.out); (case side5 => repeat (first | exact (Kd.C_below HR0_3.out HB.out) | (with_reducible refine Kd.C_alloc ?_ _) | (with_reducible refine Kd.C_drewN ?_ _) | (with_reducible refine Kd.C_drew ?_))); (case side6 => exact HC0_3.out); rintro e w28 ⟨rfl, hb⟩; refine ⟨_, rfl, ?_⟩; have n0_ := Aside0.mk (blk_below (g := gb572) (o := .cells #[.int .i64 a0_0, .slice A0_1 l0_1.length c0_1, .slice A0_2 l0_2.length c0_2, .slice A0_3 l0_3.length c0_3] 28 (0, 0)) (by (with_reducible repeat (first | refine blk_drewN ?_ _ | refine blk_drew ?_ | refine blk_alloc ?_ _)); exact BK572.out) hb); have n1_ := Aside0.mk (below_step (by repeat (first | (with_reducible first | exact HB.out | apply below_alloc | apply pw_below_drewN | apply below_drew1 | refine below_set ?_ GE572.out) | exact HB.out)) hb); clear BK572; clear HB; have BK572 := n0_; have HB := n1_; clear n0_ n1_; (try clear hb); (try clear hb2); (try clear hk); (try clear hi); have hcz29_0 : w28.cell? ⟨gb572, 0, none⟩ = some (.int .i64 a0_0) := (blk_cell BK572.out 0).trans rfl; have hcz29_1 : w28.cell? ⟨gb572, 1, none⟩ = some (.slice A0_1 l0_1.length c0_1) := (blk_cell BK572.out 1).trans rfl; have hcz29_2 : w28.cell? ⟨gb572, 2, none⟩ = some (.slice A0_2 l0_2.length c0_2) := (blk_cell BK572.out 2).trans rfl; have hcz29_3 : w28.cell? ⟨gb572, 3, none⟩ = some (.slice A0_3 l0_3.length c0_3) := (blk_cell BK572.out 3).trans rfl; have hfz29_0 := blk_frozen BK572.out 0; have hfz29_1 := blk_frozen BK572.out 1; have hfz29_2 := blk_frozen BK572.out 2; have hfz29_3 := blk_frozen BK572.out 3) | (go_at_call 54; (with_reducible refine (impl_System_times.calls a0_0 _ _ l0_1 _ _ l0_2 _ _ l0_3 x3_1 x4_3 t576 _ ?side1 ?side2 ?side3 ?side4 ?side5 ?side6 A21.out).mono ?_); (case side1 => repeat (first | exact (Kd.C_below HR0_1.out HB.out) | (with_reducible refine Kd.C_alloc ?_ _) | (with_reducible refine Kd.C_drewN ?_ _) | (with_reducible refine Kd.C_drew ?_))); (case side2 => exact HC0_1.out); (case side3 => repeat (first | exact (Kd.C_below HR0_2.out HB.out) | (with_reducible refine Kd.C_alloc ?_ _) | (with_reducible refine Kd.C_drewN ?_ _) | (with_reducible refine Kd.C_drew ?_))); (case side4 => exact HC0_2.out); (case side5 => repeat (first | exact (Kd.C_below HR0_3.out HB.out) | (with_reducible refine Kd.C_alloc ?_ _) | (with_reducible refine Kd.C_drewN ?_ _) | (with_reducible refine Kd.C_drew ?_))); (case side6 => exact HC0_3.out); rintro e w30 ⟨rfl, hb⟩; have n0_ := Aside0.mk (blk_below (g := gb572) (o := .cells #[.int .i64 a0_0, .slice A0_1 l0_1.length c0_1, .slice A0_2 l0_2.length c0_2, .slice A0_3 l0_3.length c0_3] 28 (0, 0)) (by (with_reducible repeat (first | refine blk_drewN ?_ _ | refine blk_drew ?_ | refine blk_alloc ?_ _)); exact BK572.out) hb); have n1_ := Aside0.mk (below_step (by repeat (first | (with_reducible first | exact HB.out | apply below_alloc | apply pw_below_drewN | apply below_drew1 | refine below_set ?_ GE572.out) | exact HB.out)) hb); clear BK572; clear HB; have BK572 := n0_; have HB := n1_; clear n0_ n1_; (try clear hb); (try clear hb2); (try clear hk); (try clear hi)))
                              go_roundg k3
                              case measure => have := HK1.out; have := HJ8.out; have := HK3.out; omega
                              case rel => exact ⟨(wrap64 (x4_3 + 1)), (by first | rfl | (simp; done) | (simp [*]; done)), H', ⟨by have := HK1.out; have := HJ8.out; have := HK3.out; omega⟩, ⟨by (with_reducible repeat (first | refine blk_drewN ?_ _ | refine blk_drew ?_ | refine blk_alloc ?_ _)); exact BK572.out⟩, ⟨by repeat (first | (with_reducible first | exact HB.out | apply below_alloc | apply pw_below_drewN | apply below_drew1 | refine below_set ?_ GE572.out) | exact HB.out)⟩⟩
                          · rw [if_neg c20] at H
                            have c20b0 : (x4_3 == 0) = false := beq_eq_false_iff_ne.mpr c20
                            have c20b1 : (x4_3 != 0) = true := bne_iff_ne.mpr c20
                            obtain rfl := Option.some.inj H
                            have hcz31_0 : wr.cell? ⟨gb572, 0, none⟩ = some (.int .i64 a0_0) := (blk_cell BK572.out 0).trans rfl
                            have hcz31_1 : wr.cell? ⟨gb572, 1, none⟩ = some (.slice A0_1 l0_1.length c0_1) := (blk_cell BK572.out 1).trans rfl
                            have hcz31_2 : wr.cell? ⟨gb572, 2, none⟩ = some (.slice A0_2 l0_2.length c0_2) := (blk_cell BK572.out 2).trans rfl
                            have hcz31_3 : wr.cell? ⟨gb572, 3, none⟩ = some (.slice A0_3 l0_3.length c0_3) := (blk_cell BK572.out 3).trans rfl
                            have hfz31_0 := blk_frozen BK572.out 0
                            have hfz31_1 := blk_frozen BK572.out 1
                            have hfz31_2 := blk_frozen BK572.out 2
                            have hfz31_3 := blk_frozen BK572.out 3
                            go_wp2_with (first | ((with_reducible refine gate_callee (f := 53) rfl ?_); refine goesL_ (some 30) rfl rfl Try.func53 (by kernel_rfl) rfl #[.agg #[.int .i64 a0_0, .slice A0_1 l0_1.length c0_1, .slice A0_2 l0_2.length c0_2, .slice A0_3 l0_3.length c0_3], .int .i64 x3_1, .int .i64 x4_3] rfl (by (try simp only [List.map_toArray, List.map_cons, List.map_nil]); first | done | rfl | (simp only [List.length_drop, List.length_take]; rfl)) ?_; (with_reducible refine (impl_System_plus.calls a0_0 _ _ l0_1 _ _ l0_2 _ _ l0_3 x3_1 x4_3 t575 _ ?side1 ?side2 ?side3 ?side4 ?side5 ?side6 A17.out).mono ?_); (case side1 => repeat (first | exact (Kd.C_below HR0_1.out HB.out) | (with_reducible refine Kd.C_alloc ?_ _) | (with_reducible refine Kd.C_drewN ?_ _) | (with_reducible refine Kd.C_drew ?_))); (case side2 => exact HC0_1.out); (case side3 => repeat (first | exact (Kd.C_below HR0_2.out HB.out) | (with_reducible refine Kd.C_alloc ?_ _) | (with_reducible refine Kd.C_drewN ?_ _) | (with_reducible refine Kd.C_drew ?_))); (case side4 => exact HC0_2.out); (case side5 => repeat (first | exact (Kd.C_below HR0_3.out HB.out) | (with_reducible refine Kd.C_alloc ?_ _) | (with_reducible refine Kd.C_drewN ?_ _) | (with_reducible refine Kd.C_drew ?_))); (case side6 => exact HC0_3.out); rintro e w32 ⟨rfl, hb⟩; refine ⟨_, rfl, ?_⟩; have n0_ := Aside0.mk (blk_below (g := gb572) (o := .cells #[.int .i64 a0_0, .slice A0_1 l0_1.length c0_1, .slice A0_2 l0_2.length c0_2, .slice A0_3 l0_3.length c0_3] 28 (0, 0)) (by (with_reducible repeat (first | refine blk_drewN ?_ _ | refine blk_drew ?_ | refine blk_alloc ?_ _)); exact BK572.out) hb); have n1_ := Aside0.mk (below_step (by repeat (first | (with_reducible first | exact HB.out | apply below_alloc | apply pw_below_drewN | apply below_drew1 | refine below_set ?_ GE572.out) | exact HB.out)) hb); clear BK572; clear HB; have BK572 := n0_; have HB := n1_; clear n0_ n1_; (try clear hb); (try clear hb2); (try clear hk); (try clear hi)))
                            go_ret
                            exact ⟨by first | rfl | (simp [errW_none, errW_some] <;> rfl) | (simp [*, errW_none, errW_some] <;> rfl), by repeat (first | (with_reducible first | exact HB.out | apply below_alloc | apply pw_below_drewN | apply below_drew1 | refine below_set ?_ GE572.out) | exact HB.out)⟩
                        · rw [if_neg c19] at H
                          have c19b0 : (x3_1 == 0) = false := beq_eq_false_iff_ne.mpr c19
                          have c19b1 : (x3_1 != 0) = true := bne_iff_ne.mpr c19
                          obtain rfl := Option.some.inj H
                          have hcz33_0 : wr.cell? ⟨gb572, 0, none⟩ = some (.int .i64 a0_0) := (blk_cell BK572.out 0).trans rfl
                          have hcz33_1 : wr.cell? ⟨gb572, 1, none⟩ = some (.slice A0_1 l0_1.length c0_1) := (blk_cell BK572.out 1).trans rfl
                          have hcz33_2 : wr.cell? ⟨gb572, 2, none⟩ = some (.slice A0_2 l0_2.length c0_2) := (blk_cell BK572.out 2).trans rfl
                          have hcz33_3 : wr.cell? ⟨gb572, 3, none⟩ = some (.slice A0_3 l0_3.length c0_3) := (blk_cell BK572.out 3).trans rfl
                          have hfz33_0 := blk_frozen BK572.out 0
                          have hfz33_1 := blk_frozen BK572.out 1
                          have hfz33_2 := blk_frozen BK572.out 2
                          have hfz33_3 := blk_frozen BK572.out 3
                          go_wp2_with (first | ((with_reducible refine gate_callee (f := 53) rfl ?_); refine goesL_ (some 30) rfl rfl Try.func53 (by kernel_rfl) rfl #[.agg #[.int .i64 a0_0, .slice A0_1 l0_1.length c0_1, .slice A0_2 l0_2.length c0_2, .slice A0_3 l0_3.length c0_3], .int .i64 x3_1, .int .i64 x4_3] rfl (by (try simp only [List.map_toArray, List.map_cons, List.map_nil]); first | done | rfl | (simp only [List.length_drop, List.length_take]; rfl)) ?_; (with_reducible refine (impl_System_plus.calls a0_0 _ _ l0_1 _ _ l0_2 _ _ l0_3 x3_1 x4_3 t575 _ ?side1 ?side2 ?side3 ?side4 ?side5 ?side6 A17.out).mono ?_); (case side1 => repeat (first | exact (Kd.C_below HR0_1.out HB.out) | (with_reducible refine Kd.C_alloc ?_ _) | (with_reducible refine Kd.C_drewN ?_ _) | (with_reducible refine Kd.C_drew ?_))); (case side2 => exact HC0_1.out); (case side3 => repeat (first | exact (Kd.C_below HR0_2.out HB.out) | (with_reducible refine Kd.C_alloc ?_ _) | (with_reducible refine Kd.C_drewN ?_ _) | (with_reducible refine Kd.C_drew ?_))); (case side4 => exact HC0_2.out); (case side5 => repeat (first | exact (Kd.C_below HR0_3.out HB.out) | (with_reducible refine Kd.C_alloc ?_ _) | (with_reducible refine Kd.C_drewN ?_ _) | (with_reducible refine Kd.C_drew ?_))); (case side6 => exact HC0_3.out); rintro e w34 ⟨rfl, hb⟩; refine ⟨_, rfl, ?_⟩; have n0_ := Aside0.mk (blk_below (g := gb572) (o := .cells #[.int .i64 a0_0, .slice A0_1 l0_1.length c0_1, .slice A0_2 l0_2.length c0_2, .slice A0_3 l0_3.length c0_3] 28 (0, 0)) (by (with_reducible repeat (first | refine blk_drewN ?_ _ | refine blk_drew ?_ | refine blk_alloc ?_ _)); exact BK572.out) hb); have n1_ := Aside0.mk (below_step (by repeat (first | (with_reducible first | exact HB.out | apply below_alloc | apply pw_below_drewN | apply below_drew1 | refine below_set ?_ GE572.out) | exact HB.out)) hb); clear BK572; clear HB; have BK572 := n0_; have HB := n1_; clear n0_ n1_; (try clear hb); (try clear hb2); (try clear hk); (try clear hi)))
                          go_ret
                          exact ⟨by first | rfl | (simp [errW_none, errW_some] <;> rfl) | (simp [*, errW_none, errW_some] <;> rfl), by repeat (first | (with_reducible first | exact HB.out | apply below_alloc | apply pw_below_drewN | apply below_drew1 | refine below_set ?_ GE572.out) | exact HB.out)⟩
                      · rw [if_neg c18] at H
                        have c18b0 : (t575 == 0) = false := beq_eq_false_iff_ne.mpr c18
                        have c18b1 : (t575 != 0) = true := bne_iff_ne.mpr c18
                        replace H := Option.bind_eq_some_iff.mp H
                        obtain ⟨t577, A350, H⟩ := H
                        replace H : (if t577 = 0 then (if x3_1 = 0 then (impl_IsReliable.l1 k3 x3_1 (wrap64 (x4_3 + 1)) a0_0 l0_1 l0_2 l0_3) else (if x4_3 = 0 then (impl_IsReliable.l1 k3 x3_1 (wrap64 (x4_3 + 1)) a0_0 l0_1 l0_2 l0_3) else (some false))) else (impl_IsReliable.l1 k3 x3_1 (wrap64 (x4_3 + 1)) a0_0 l0_1 l0_2 l0_3)) = some r := H
                        have A35 := Aside0.mk A350
                        clear A350
                        by_cases c36 : t577 = 0
                        · rw [if_pos c36] at H
                          have c36b0 : (t577 == 0) = true := beq_iff_eq.mpr c36
                          have c36b1 : (t577 != 0) = false := bne_eq_false_iff_eq.mpr c36
                          clear c36
                          by_cases c37 : x3_1 = 0
                          · rw [if_pos c37] at H
                            have c37b0 : (x3_1 == 0) = true := beq_iff_eq.mpr c37
                            have c37b1 : (x3_1 != 0) = false := bne_eq_false_iff_eq.mpr c37
                            clear c37
                            have H' := Aside0.mk H
                            clear H
                            have hcz38_0 : wr.cell? ⟨gb572, 0, none⟩ = some (.int .i64 a0_0) := (blk_cell BK572.out 0).trans rfl
                            have hcz38_1 : wr.cell? ⟨gb572, 1, none⟩ = some (.slice A0_1 l0_1.length c0_1) := (blk_cell BK572.out 1).trans rfl
                            have hcz38_2 : wr.cell? ⟨gb572, 2, none⟩ = some (.slice A0_2 l0_2.length c0_2) := (blk_cell BK572.out 2).trans rfl
                            have hcz38_3 : wr.cell? ⟨gb572, 3, none⟩ = some (.slice A0_3 l0_3.length c0_3) := (blk_cell BK572.out 3).trans rfl
                            have hfz38_0 := blk_frozen BK572.out 0
                            have hfz38_1 := blk_frozen BK572.out 1
                            have hfz38_2 := blk_frozen BK572.out 2
                            have hfz38_3 := blk_frozen BK572.out 3
                            go_wp2_with (first | ((with_reducible refine gate_callee (f := 53) rfl ?_); refine goesL_ (some 30) rfl rfl Try.func53 (by kernel_rfl) rfl #[.agg #[.int .i64 a0_0, .slice A0_1 l0_1.length c0_1, .slice A0_2 l0_2.length c0_2, .slice A0_3 l0_3.length c0_3], .int .i64 x3_1, .int .i64 x4_3] rfl (by (try simp only [List.map_toArray, List.map_cons, List.map_nil]); first | done | rfl | (simp only [List.length_drop, List.length_take]; rfl)) ?_; (with_reducible refine (impl_System_plus.calls a0_0 _ _ l0_1 _ _ l0_2 _ _ l0_3 x3_1 x4_3 t575 _ ?side1 ?side2 ?side3 ?side4 ?side5 ?side6 A17.out).mono ?_); (case side1 => repeat (first | exact (Kd.C_below HR0_1.out HB.out) | (with_reducible refine Kd.C_alloc ?_ _) | (with_reducible refine Kd.C_drewN ?_ _) | (with_reducible refine Kd.C_drew ?_))); (case side2 => exact HC0_1.out); (case side3 => repeat (first | exact (Kd.C_below HR0_2.out HB.out) | (with_reducible refine Kd.C_alloc ?_ _) | (with_reducible refine Kd.C_drewN ?_ _) | (with_reducible refine Kd.C_drew ?_))); (case side4 => exact HC0_2.out); (case side5 => repeat (first | exact (Kd.C_below HR0_3.out HB.out) | (with_reducible refine Kd.C_alloc ?_ _) | (with_reducible refine Kd.C_drewN ?_ _) | (with_reducible refine Kd.C_drew ?_))); (case side6 => exact HC0_3.out); rintro e w39 ⟨rfl, hb⟩; refine ⟨_, rfl, ?_⟩; have n0_ := Aside0.mk (blk_below (g := gb572) (o := .cells #[.int .i64 a0_0, .slice A0_1 l0_1.length c0_1, .slice A0_2 l0_2.length c0_2, .slice A0_3 l0_3.length c0_3] 28 (0, 0)) (by (with_reducible repeat (first | refine blk_drewN ?_ _ | refine blk_drew ?_ | refine blk_alloc ?_ _)); exact BK572.out) hb); have n1_ := Aside0.mk (below_step (by repeat (first | (with_reducible first | exact HB.out | apply below_alloc | apply pw_below_drewN | apply below_drew1 | refine below_set ?_ GE572.out) | exact HB.out)) hb); clear BK572; clear HB; have BK572 := n0_; have HB := n1_; clear n0_ n1_; (try clear hb); (try clear hb2); (try clear hk); (try clear hi); have hcz40_0 : w39.cell? ⟨gb572, 0, none⟩ = some (.int .i64 a0_0) := (blk_cell BK572.out 0).trans rfl; have hcz40_1 : w39.cell? ⟨gb572, 1, none⟩ = some (.slice A0_1 l0_1.length c0_1) := (blk_cell BK572.out 1).trans rfl; have hcz40_2 : w39.cell? ⟨gb572, 2, none⟩ = some (.slice A0_2 l0_2.length c0_2) := (blk_cell BK572.out 2).trans rfl; have hcz40_3 : w39.cell? ⟨gb572, 3, none⟩ = some (.slice A0_3 l0_3.length c0_3) := (blk_cell BK572.out 3).trans rfl; have hfz40_0 := blk_frozen BK572.out 0; have hfz40_1 := blk_frozen BK572.out 1; have hfz40_2 := blk_frozen BK572.out 2; have hfz40_3 := blk_frozen BK572.out 3) | (go_at_call 54; (with_reducible refine (impl_System_times.calls a0_0 _ _ l0_1 _ _ l0_2 _ _ l0_3 x3_1 x4_3 t577 _ ?side1 ?side2 ?side3 ?side4 ?side5 ?side6 A35.out).mono ?_); (case side1 => repeat (first | exact (Kd.C_below HR0_1.out HB.out) | (with_reducible refine Kd.C_alloc ?_ _) | (with_reducible refine Kd.C_drewN ?_ _) | (with_reducible refine Kd.C_drew ?_))); (case side2 => exact HC0_1.out); (case side3 => repeat (first | exact (Kd.C_below HR0_2.out HB.out) | (with_reducible refine Kd.C_alloc ?_ _) | (with_reducible refine Kd.C_drewN ?_ _) | (with_reducible refine Kd.C_drew ?_))); (case side4 => exact HC0_2.out); (case side5 => repeat (first | exact (Kd.C_below HR0_3.out HB.out) | (with_reducible refine Kd.C_alloc ?_ _) | (with_reducible refine Kd.C_drewN ?_ _) | (with_reducible refine Kd.C_drew ?_))); (case side6 => exact HC0_3.out); rintro e w41 ⟨rfl, hb⟩; have n0_ := Aside0.mk (blk_below (g := gb572) (o := .cells #[.int .i64 a0_0, .slice A0_1 l0_1.length c0_1, .slice A0_2 l0_2.length c0_2, .slice A0_3 l0_3.length c0_3] 28 (0, 0)) (by (with_reducible repeat (first | refine blk_drewN ?_ _ | refine blk_drew ?_ | refine blk_alloc ?_ _)); exact BK572.out) hb); have n1_ := Aside0.mk (below_step (by repeat (first | (with_reducible first | exact HB.out | apply below_alloc | apply pw_below_drewN | apply below_drew1 | refine below_set ?_ GE572.out) | exact HB.out)) hb); clear BK572; clear HB; have BK572 := n0_; have HB := n1_; clear n0_ n1_; (try clear hb); (try clear hb2); (try clear hk); (try clear hi)))
                            go_roundg k3
                            case measure => have := HK1.out; have := HJ8.out; have := HK3.out; omega
                            case rel => exact ⟨(wrap64 (x4_3 + 1)), (by first | rfl | (simp; done) | (simp [*]; done)), H', ⟨by have := HK1.out; have := HJ8.out; have := HK3.out; omega⟩, ⟨by (with_reducible repeat (first | refine blk_drewN ?_ _ | refine blk_drew ?_ | refine blk_alloc ?_ _)); exact BK572.out⟩, ⟨by repeat (first | (with_reducible first | exact HB.out | apply below_alloc | apply pw_below_drewN | apply below_drew1 | refine below_set ?_ GE572.out) | exact HB.out)⟩⟩
                          · rw [if_neg c37] at H
                            have c37b0 : (x3_1 == 0) = false := beq_eq_false_iff_ne.mpr c37
                            have c37b1 : (x3_1 != 0) = true := bne_iff_ne.mpr c37
                            have HP42 := Aside0.mk H
                            clear H
                            have hcz43_0 : wr.cell? ⟨gb572, 0, none⟩ = some (.int .i64 a0_0) := (blk_cell BK572.out 0).trans rfl
                            have hcz43_1 : wr.cell? ⟨gb572, 1, none⟩ = some (.slice A0_1 l0_1.length c0_1) := (blk_cell BK572.out 1).trans rfl
                            have hcz43_2 : wr.cell? ⟨gb572, 2, none⟩ = some (.slice A0_2 l0_2.length c0_2) := (blk_cell BK572.out 2).trans rfl
                            have hcz43_3 : wr.cell? ⟨gb572, 3, none⟩ = some (.slice A0_3 l0_3.length c0_3) := (blk_cell BK572.out 3).trans rfl
                            have hfz43_0 := blk_frozen BK572.out 0
                            have hfz43_1 := blk_frozen BK572.out 1
                            have hfz43_2 := blk_frozen BK572.out 2
                            have hfz43_3 := blk_frozen BK572.out 3
                            go_upto_if 54 with (first | ((with_reducible refine gate_callee (f := 53) rfl ?_); refine goesL_ (some 30) rfl rfl Try.func53 (by kernel_rfl) rfl #[.agg #[.int .i64 a0_0, .slice A0_1 l0_1.length c0_1, .slice A0_2 l0_2.length c0_2, .slice A0_3 l0_3.length c0_3], .int .i64 x3_1, .int .i64 x4_3] rfl (by (try simp only [List.map_toArray, List.map_cons, List.map_nil]); first | done | rfl | (simp only [List.length_drop, List.length_take]; rfl)) ?_; (with_reducible refine (impl_System_plus.calls a0_0 _ _ l0_1 _ _ l0_2 _ _ l0_3 x3_1 x4_3 t575 _ ?side1 ?side2 ?side3 ?side4 ?side5 ?side6 A17.out).mono ?_); (case side1 => repeat (first | exact (Kd.C_below HR0_1.out HB.out) | (with_reducible refine Kd.C_alloc ?_ _) | (with_reducible refine Kd.C_drewN ?_ _) | (with_reducible refine Kd.C_drew ?_))); (case side2 => exact HC0_1.out); (case side3 => repeat (first | exact (Kd.C_below HR0_2.out HB.out) | (with_reducible refine Kd.C_alloc ?_ _) | (with_reducible refine Kd.C_drewN ?_ _) | (with_reducible refine Kd.C_drew ?_))); (case side4 => exact HC0_2.out); (case side5 => repeat (first | exact (Kd.C_below HR0_3.out HB.out) | (with_reducible refine Kd.C_alloc ?_ _) | (with_reducible refine Kd.C_drewN ?_ _) | (with_reducible refine Kd.C_drew ?_))); (case side6 => exact HC0_3.out); rintro e w44 ⟨rfl, hb⟩; refine ⟨_, rfl, ?_⟩; have n0_ := Aside0.mk (blk_below (g := gb572) (o := .cells #[.int .i64 a0_0, .slice A0_1 l0_1.length c0_1, .slice A0_2 l0_2.length c0_2, .slice A0_3 l0_3.length c0_3] 28 (0, 0)) (by (with_reducible repeat (first | refine blk_drewN ?_ _ | refine blk_drew ?_ | refine blk_alloc ?_ _)); exact BK572.out) hb); have n1_ := Aside0.mk (below_step (by repeat (first | (with_reducible first | exact HB.out | apply below_alloc | apply pw_below_drewN | apply below_drew1 | refine below_set ?_ GE572.out) | exact HB.out)) hb); clear BK572; clear HB; have BK572 := n0_; have HB := n1_; clear n0_ n1_; (try clear hb); (try clear hb2); (try clear hk); (try clear hi); have hcz45_0 : w44.cell? ⟨gb572, 0, none⟩ = some (.int .i64 a0_0) := (blk_cell BK572.out 0).trans rfl; have hcz45_1 : w44.cell? ⟨gb572, 1, none⟩ = some (.slice A0_1 l0_1.length c0_1) := (blk_cell BK572.out 1).trans rfl; have hcz45_2 : w44.cell? ⟨gb572, 2, none⟩ = some (.slice A0_2 l0_2.length c0_2) := (blk_cell BK572.out 2).trans rfl; have hcz45_3 : w44.cell? ⟨gb572, 3, none⟩ = some (.slice A0_3 l0_3.length c0_3) := (blk_cell BK572.out 3).trans rfl; have hfz45_0 := blk_frozen BK572.out 0; have hfz45_1 := blk_frozen BK572.out 1; have hfz45_2 := blk_frozen BK572.out 2; have hfz45_3 := blk_frozen BK572.out 3) | (go_at_call 54; (with_reducible refine (impl_System_times.calls a0_0 _ _ l0_1 _ _ l0_2 _ _ l0_3 x3_1 x4_3 t577 _ ?side1 ?side2 ?side3 ?side4 ?side5 ?side6 A35.out).mono ?_); (case side1 => repeat (first | exact (Kd.C_below HR0_1.out HB.out) | (with_reducible refine Kd.C_alloc ?_ _) | (with_reducible refine Kd.C_drewN ?_ _) | (with_reducible refine Kd.C_drew ?_))); (case side2 => exact HC0_1.out); (case side3 => repeat (first | exact (Kd.C_below HR0_2.out HB.out) | (with_reducible refine Kd.C_alloc ?_ _) | (with_reducible refine Kd.C_drewN ?_ _) | (with_reducible refine Kd.C_drew ?_))); (case side4 => exact HC0_2.out); (case side5 => repeat (first | exact (Kd.C_below HR0_3.out HB.out) | (with_reducible refine Kd.C_alloc ?_ _) | (with_reducible refine Kd.C_drewN ?_ _) | (with_reducible refine Kd.C_drew ?_))); (case side6 => exact HC0_3.out); rintro e w46 ⟨rfl, hb⟩; have n0_ := Aside0.mk (blk_below (g := gb572) (o := .cells #[.int .i64 a0_0, .slice A0_1 l0_1.length c0_1, .slice A0_2 l0_2.length c0_2, .slice A0_3 l0_3.length c0_3] 28 (0, 0)) (by (with_reducible repeat (first | refine blk_drewN ?_ _ | refine blk_drew ?_ | refine blk_alloc ?_ _)); exact BK572.out) hb); have n1_ := Aside0.mk (below_step (by repeat (first | (with_reducible first | exact HB.out | apply below_alloc | apply pw_below_drewN | apply below_drew1 | refine below_set ?_ GE572.out) | exact HB.out)) hb); clear BK572; clear HB; have BK572 := n0_; have HB := n1_; clear n0_ n1_; (try clear hb); (try clear hb2); (try clear hk); (try clear hi)))
                            have H := HP42.out
                            clear HP42
                            by_cases c47 : x4_3 = 0
                            · rw [if_pos c47] at H
                              have c47b0 : (x4_3 == 0) = true := beq_iff_eq.mpr c47
                              have c47b1 : (x4_3 != 0) = false := bne_eq_false_iff_eq.mpr c47
                              clear c47
                              (first | rw [c47b0] | (simp only [i64_w, i32_w]; rw [c47b0]) | skip)
                              have H' := Aside0.mk H
                              clear H
                              go_wp2
                              go_roundg k3
                              case measure => have := HK1.out; have := HJ8.out; have := HK3.out; omega
                              case rel => exact ⟨(wrap64 (x4_3 + 1)), (by first | rfl | (simp; done) | (simp [*]; done)), H', ⟨by have := HK1.out; have := HJ8.out; have := HK3.out; omega⟩, ⟨by (with_reducible repeat (first | refine blk_drewN ?_ _ | refine blk_drew ?_ | refine blk_alloc ?_ _)); exact BK572.out⟩, ⟨by repeat (first | (with_reducible first | exact HB.out | apply below_alloc | apply pw_below_drewN | apply below_drew1 | refine below_set ?_ GE572.out) | exact HB.out)⟩⟩
                            · rw [if_neg c47] at H
                              have c47b0 : (x4_3 == 0) = false := beq_eq_false_iff_ne.mpr c47
                              have c47b1 : (x4_3 != 0) = true := bne_iff_ne.mpr c47
                              (first | rw [c47b0] | (simp only [i64_w, i32_w]; rw [c47b0]) | skip)
                              obtain rfl := Option.some.inj H
                              go_wp2
                              go_ret
                              exact ⟨by first | rfl | (simp [errW_none, errW_some] <;> rfl) | (simp [*, errW_none, errW_some] <;> rfl), by repeat (first | (with_reducible first | exact HB.out | apply below_alloc | apply pw_below_drewN | apply below_drew1 | refine below_set ?_ GE572.out) | exact HB.out)⟩
                        · rw [if_neg c36] at H
                          have c36b0 : (t577 == 0) = false := beq_eq_false_iff_ne.mpr c36
                          have c36b1 : (t577 != 0) = true := bne_iff_ne.mpr c36
                          have H' := Aside0.mk H
                          clear H
                          have hcz48_0 : wr.cell? ⟨gb572, 0, none⟩ = some (.int .i64 a0_0) := (blk_cell BK572.out 0).trans rfl
                          have hcz48_1 : wr.cell? ⟨gb572, 1, none⟩ = some (.slice A0_1 l0_1.length c0_1) := (blk_cell BK572.out 1).trans rfl
                          have hcz48_2 : wr.cell? ⟨gb572, 2, none⟩ = some (.slice A0_2 l0_2.length c0_2) := (blk_cell BK572.out 2).trans rfl
                          have hcz48_3 : wr.cell? ⟨gb572, 3, none⟩ = some (.slice A0_3 l0_3.length c0_3) := (blk_cell BK572.out 3).trans rfl
                          have hfz48_0 := blk_frozen BK572.out 0
                          have hfz48_1 := blk_frozen BK572.out 1
                          have hfz48_2 := blk_frozen BK572.out 2
                          have hfz48_3 := blk_frozen BK572.out 3
                          go_wp2_with (first | ((with_reducible refine gate_callee (f := 53) rfl ?_); refine goesL_ (some 30) rfl rfl Try.func53 (by kernel_rfl) rfl #[.agg #[.int .i64 a0_0, .slice A0_1 l0_1.length c0_1, .slice A0_2 l0_2.length c0_2, .slice A0_3 l0_3.length c0_3], .int .i64 x3_1, .int .i64 x4_3] rfl (by (try simp only [List.map_toArray, List.map_cons, List.map_nil]); first | done | rfl | (simp only [List.length_drop, List.length_take]; rfl)) ?_; (with_reducible refine (impl_System_plus.calls a0_0 _ _ l0_1 _ _ l0_2 _ _ l0_3 x3_1 x4_3 t575 _ ?side1 ?side2 ?side3 ?side4 ?side5 ?side6 A17.out).mono ?_); (case side1 => repeat (first | exact (Kd.C_below HR0_1.out HB.out) | (with_reducible refine Kd.C_alloc ?_ _) | (with_reducible refine Kd.C_drewN ?_ _) | (with_reducible refine Kd.C_drew ?_))); (case side2 => exact HC0_1.out); (case side3 => repeat (first | exact (Kd.C_below HR0_2.out HB.out) | (with_reducible refine Kd.C_alloc ?_ _) | (with_reducible refine Kd.C_drewN ?_ _) | (with_reducible refine Kd.C_drew ?_))); (case side4 => exact HC0_2.out); (case side5 => repeat (first | exact (Kd.C_below HR0_3.out HB.out) | (with_reducible refine Kd.C_alloc ?_ _) | (with_reducible refine Kd.C_drewN ?_ _) | (with_reducible refine Kd.C_drew ?_))); (case side6 => exact HC0_3.out); rintro e w49 ⟨rfl, hb⟩; refine ⟨_, rfl, ?_⟩; have n0_ := Aside0.mk (blk_below (g := gb572) (o := .cells #[.int .i64 a0_0, .slice A0_1 l0_1.length c0_1, .slice A0_2 l0_2.length c0_2, .slice A0_3 l0_3.length c0_3] 28 (0, 0)) (by (with_reducible repeat (first | refine blk_drewN ?_ _ | refine blk_drew ?_ | refine blk_alloc ?_ _)); exact BK572.out) hb); have n1_ := Aside0.mk (below_step (by repeat (first | (with_reducible first | exact HB.out | apply below_alloc | apply pw_below_drewN | apply below_drew1 | refine below_set ?_ GE572.out) | exact HB.out)) hb); clear BK572; clear HB; have BK572 := n0_; have HB := n1_; clear n0_ n1_; (try clear hb); (try clear hb2); (try clear hk); (try clear hi); have hcz50_0 : w49.cell? ⟨gb572, 0, none⟩ = some (.int .i64 a0_0) := (blk_cell BK572.out 0).trans rfl; have hcz50_1 : w49.cell? ⟨gb572, 1, none⟩ = some (.slice A0_1 l0_1.length c0_1) := (blk_cell BK572.out 1).trans rfl; have hcz50_2 : w49.cell? ⟨gb572, 2, none⟩ = some (.slice A0_2 l0_2.length c0_2) := (blk_cell BK572.out 2).trans rfl; have hcz50_3 : w49.cell? ⟨gb572, 3, none⟩ = some (.slice A0_3 l0_3.length c0_3) := (blk_cell BK572.out 3).trans rfl; have hfz50_0 := blk_frozen BK572.out 0; have hfz50_1 := blk_frozen BK572.out 1; have hfz50_2 := blk_frozen BK572.out 2; have hfz50_3 := blk_frozen BK572.out 3) | (go_at_call 54; (with_reducible refine (impl_System_times.calls a0_0 _ _ l0_1 _ _ l0_2 _ _ l0_3 x3_1 x4_3 t577 _ ?side1 ?side2 ?side3 ?side4 ?side5 ?side6 A35.out).mono ?_); (case side1 => repeat (first | exact (Kd.C_below HR0_1.out HB.out) | (with_reducible refine Kd.C_alloc ?_ _) | (with_reducible refine Kd.C_drewN ?_ _) | (with_reducible refine Kd.C_drew ?_))); (case side2 => exact HC0_1.out); (case side3 => repeat (first | exact (Kd.C_below HR0_2.out HB.out) | (with_reducible refine Kd.C_alloc ?_ _) | (with_reducible refine Kd.C_drewN ?_ _) | (with_reducible refine Kd.C_drew ?_))); (case side4 => exact HC0_2.out); (case side5 => repeat (first | exact (Kd.C_below HR0_3.out HB.out) | (with_reducible refine Kd.C_alloc ?_ _) | (with_reducible refine Kd.C_drewN ?_ _) | (with_reducible refine Kd.C_drew ?_))); (case side6 => exact HC0_3.out); rintro e w51 ⟨rfl, hb⟩; have n0_ := Aside0.mk (blk_below (g := gb572) (o := .cells #[.int .i64 a0_0, .slice A0_1 l0_1.length c0_1, .slice A0_2 l0_2.length c0_2, .slice A0_3 l0_3.length c0_3] 28 (0, 0)) (by (with_reducible repeat (first | refine blk_drewN ?_ _ | refine blk_drew ?_ | refine blk_alloc ?_ _)); exact BK572.out) hb); have n1_ := Aside0.mk (below_step (by repeat (first | (with_reducible first | exact HB.out | apply below_alloc | apply pw_below_drewN | apply below_drew1 | refine below_set ?_ GE572.out) | exact HB.out)) hb); clear BK572; clear HB; have BK572 := n0_; have HB := n1_; clear n0_ n1_; (try clear hb); (try clear hb2); (try clear hk); (try clear hi)))
                          go_roundg k3
                          case measure => have := HK1.out; have := HJ8.out; have := HK3.out; omega
                          case rel => exact ⟨(wrap64 (x4_3 + 1)), (by first | rfl | (simp; done) | (simp [*]; done)), H', ⟨by have := HK1.out; have := HJ8.out; have := HK3.out; omega⟩, ⟨by (with_reducible repeat (first | refine blk_drewN ?_ _ | refine blk_drew ?_ | refine blk_alloc ?_ _)); exact BK572.out⟩, ⟨by repeat (first | (with_reducible first | exact HB.out | apply below_alloc | apply pw_below_drewN | apply below_drew1 | refine below_set ?_ GE572.out) | exact HB.out)⟩⟩
                    · rw [if_neg c16] at H
                      have c16b0 : decide (x4_3 < a0_0) = false := decide_eq_false c16
                      clear c16
                      have H' := Aside0.mk H
                      clear H
                      have hcz52_0 : wr.cell? ⟨gb572, 0, none⟩ = some (.int .i64 a0_0) := (blk_cell BK572.out 0).trans rfl
                      have hcz52_1 : wr.cell? ⟨gb572, 1, none⟩ = some (.slice A0_1 l0_1.length c0_1) := (blk_cell BK572.out 1).trans rfl
                      have hcz52_2 : wr.cell? ⟨gb572, 2, none⟩ = some (.slice A0_2 l0_2.length c0_2) := (blk_cell BK572.out 2).trans rfl
                      have hcz52_3 : wr.cell? ⟨gb572, 3, none⟩ = some (.slice A0_3 l0_3.length c0_3) := (blk_cell BK572.out 3).trans rfl
                      have hfz52_0 := blk_frozen BK572.out 0
                      have hfz52_1 := blk_frozen BK572.out 1
                      have hfz52_2 := blk_frozen BK572.out 2
                      have hfz52_3 := blk_frozen BK572.out 3
                      go_wp2
                      go_roundg k3
                      case measure => have := HK1.out; have := HJ8.out; have := HK3.out; omega
                      case rel => exact ⟨(wrap64 (x3_1 + 1)), (by first | rfl | (simp; done) | (simp [*]; done)), H', ⟨by have := HK1.out; have := HJ8.out; have := HK3.out; omega⟩, ⟨by (with_reducible repeat (first | refine blk_drewN ?_ _ | refine blk_drew ?_ | refine blk_alloc ?_ _)); exact BK572.out⟩, ⟨by repeat (first | (with_reducible first | exact HB.out | apply below_alloc | apply pw_below_drewN | apply below_drew1 | refine below_set ?_ GE572.out) | exact HB.out)⟩⟩
        · rw [if_neg c8] at H
          have c8b0 : decide (x3_1 < a0_0) = false := decide_eq_false c8
          clear c8
          (first | rw [c8b0] | (simp only [i64_w, i32_w]; rw [c8b0]) | skip)
          obtain rfl := Option.some.inj H
          have hcz53_0 : wr.cell? ⟨gb572, 0, none⟩ = some (.int .i64 a0_0) := (blk_cell BK572.out 0).trans rfl
          have hcz53_1 : wr.cell? ⟨gb572, 1, none⟩ = some (.slice A0_1 l0_1.length c0_1) := (blk_cell BK572.out 1).trans rfl
          have hcz53_2 : wr.cell? ⟨gb572, 2, none⟩ = some (.slice A0_2 l0_2.length c0_2) := (blk_cell BK572.out 2).trans rfl
          have hcz53_3 : wr.cell? ⟨gb572, 3, none⟩ = some (.slice A0_3 l0_3.length c0_3) := (blk_cell BK572.out 3).trans rfl
          have hfz53_0 := blk_frozen BK572.out 0
          have hfz53_1 := blk_frozen BK572.out 1
          have hfz53_2 := blk_frozen BK572.out 2
          have hfz53_3 := blk_frozen BK572.out 3
          go_wp2
          go_ret
          exact ⟨by first | rfl | (simp [errW_none, errW_some] <;> rfl) | (simp [*, errW_none, errW_some] <;> rfl), by repeat (first | (with_reducible first | exact HB.out | apply below_alloc | apply pw_below_drewN | apply below_drew1 | refine below_set ?_ GE572.out) | exact HB.out)⟩
  · replace c7 := Bool.eq_false_iff.mpr c7
    subst c7
    have H1 : (some false) = some r := by rw [if_neg (show ¬ (false = true) by decide)] at H; exact H
    clear H
    have H := H1
    clear H1
    obtain rfl := Option.some.inj H
    go_wp2
    go_ret
    exact ⟨by first | rfl | (simp [errW_none, errW_some] <;> rfl) | (simp [*, errW_none, errW_some] <;> rfl), by repeat (first | (with_reducible first | exact HB.out | apply below_alloc | apply pw_below_drewN | apply below_drew1 | refine below_set ?_ GE572.out) | exact HB.out)⟩

end Go.Proofs.Ythdbijjkcoafiaa.P
