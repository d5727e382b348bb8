-- Printed by this session's own program (wip/tools/mkprint.py) out of the translation. Not trusted: Lean checks it.
import Derived.Test.YthdbijjkcoafiaaP0
import Derived.Test.YthdbijjkcoafiaaPf18
import Derived.Test.YthdbijjkcoafiaaPf53
import Derived.Test.YthdbijjkcoafiaaPf66
import Derived.Test.YthdbijjkcoafiaaPf67
namespace Go.Proofs.Ythdbijjkcoafiaa.P
open Go.RowKit Go.Proofs.YthdbijjkcoafiaaW.PrintWords Go.Proofs.YthdbijjkcoafiaaW.PrintLast Go.Proofs.YthdbijjkcoafiaaW.PrintMore
attribute [local go_sem] max2_int min2_int max_two min_two max_three min_three max_four min_four   -- for this text's walks alone
set_option linter.unusedVariables false
set_option linter.unusedSimpArgs false

/-! ### impl_SumGrades: function 36 -/
mutual
def impl_SumGrades.j0 : Nat → List Int → Bool → Int → List Int → List Int → List Bool → Option (Int)
  | 0, _, _, _, _, _, _ => none
  | k + 1, x1, x15, x625000, x625001, x625002, x625003 => if x15 = true then (some (-1)) else (impl_SumGrades.l0 k 0 x1 (x1.length : Int) 0 x625000 x625001 x625002 x625003)
def impl_SumGrades.l0 : Nat → Int → List Int → Int → Int → Int → List Int → List Int → List Bool → Option (Int)
  | 0, _, _, _, _, _, _, _, _ => none
  | k + 1, x5, x16, x17, x18, x625000, x625001, x625002, x625003 => if x18 < x17 then (if 0 ≤ x18 then (if x18 < (x16.length : Int) then ((impl_System_plus.f x625000 x625001 x625002 x625003 x5 (rd x16 x18)).bind fun t628 => (impl_SumGrades.l0 k t628 x16 x17 (wrap64 (x18 + 1)) x625000 x625001 x625002 x625003)) else (none)) else (none)) else (some x5)
end
def impl_SumGrades.f (k : Nat) (a0_0 : Int) (l0_1 : List Int) (l0_2 : List Int) (l0_3 : List Bool) (l1 : List Int) : Option (Int) := (impl_IsSystem.f k a0_0 l0_1 l0_2 l0_3).bind fun t625 => (if t625 = true then ((slices_ContainsFunc_int_int.f k l1 (fun z0_ => impl_SumGrades_1.f z0_ a0_0 l0_1 l0_2 l0_3)).bind fun t626 => (impl_SumGrades.j0 k l1 t626 a0_0 l0_1 l0_2 l0_3)) else (impl_SumGrades.j0 k l1 true a0_0 l0_1 l0_2 l0_3))
set_option maxHeartbeats 8000000 in
set_option maxRecDepth 100000 in
theorem impl_SumGrades.calls (k : Nat) (a0_0 : Int) (A0_1 : Option Addr) (c0_1 : Nat) (l0_1 : List Int) (A0_2 : Option Addr) (c0_2 : Nat) (l0_2 : List Int) (A0_3 : Option Addr) (c0_3 : Nat) (l0_3 : List Bool) (A1 : Option Addr) (c1 : Nat) (l1 : List Int) (r : Int) (w : World) (hr0_1 : Kd.C (Kd.int .i64) w A0_1 l0_1.length l0_1) (hc0_1 : l0_1.length ≤ c0_1) (hr0_2 : Kd.C (Kd.int .i64) w A0_2 l0_2.length l0_2) (hc0_2 : l0_2.length ≤ c0_2) (hr0_3 : Kd.C Kd.bool w A0_3 l0_3.length l0_3) (hc0_3 : l0_3.length ≤ c0_3) (hr1 : Kd.C (Kd.int .i64) w A1 l1.length l1) (hc1 : l1.length ≤ c1) (h : impl_SumGrades.f k a0_0 l0_1 l0_2 l0_3 l1 = some r) :
    Calls Try.prog 36 #[.agg #[.int .i64 a0_0, .slice A0_1 l0_1.length c0_1, .slice A0_2 l0_2.length c0_2, .slice A0_3 l0_3.length c0_3], .slice A1 l1.length c1] w fun e w' => e = .returned (.int .i64 r) ∧ Below w.heap.size w w' := by
  have hu28 := Try.underlying28
  have HR0_1 := Aside0.mk hr0_1
  have HC0_1 := Aside0.mk hc0_1
  clear hr0_1 hc0_1
  have HR0_2 := Aside0.mk hr0_2
  have HC0_2 := Aside0.mk hc0_2
  clear hr0_2 hc0_2
  have HR0_3 := Aside0.mk hr0_3
  have HC0_3 := Aside0.mk hc0_3
  clear hr0_3 hc0_3
  have HR1 := Aside0.mk hr1
  have HC1 := Aside0.mk hc1
  clear hr1 hc1
  have HB := Aside0.mk (Below.refl w.heap.size w)
  have H : ((impl_IsSystem.f k a0_0 l0_1 l0_2 l0_3).bind fun t625 => (if t625 = true then ((slices_ContainsFunc_int_int.f k l1 (fun z0_ => impl_SumGrades_1.f z0_ a0_0 l0_1 l0_2 l0_3)).bind fun t626 => (impl_SumGrades.j0 k l1 t626 a0_0 l0_1 l0_2 l0_3)) else (impl_SumGrades.j0 k l1 true a0_0 l0_1 l0_2 l0_3))) = some r := h
  clear h
  have HC3 := Aside0.mk H
  clear H
  go_enter Try.func36, Try.ntmps36
  go_upto_region 1 with (first | ((with_reducible refine gate_dst (N := 2) rfl ?_); refine box_event ?hg (N := 2) ?hd (cs := #[.int .i64 a0_0, .slice A0_1 l0_1.length c0_1, .slice A0_2 l0_2.length c0_2, .slice A0_3 l0_3.length c0_3]) (t := 28) ?hr ?_; (case hd => rfl); (case hg => rfl); (case hr => first | (go_simp; done) | (go_simp; rfl)); intro gb624 hg w4 hbox hb; have n0_ := Aside0.mk (below_step (by repeat (first | (with_reducible first | exact HB.out | apply below_alloc | apply pw_below_drewN | apply below_drew1) | exact HB.out)) hb); have n1_ := Aside0.mk (hbox); have n2_ := Aside0.mk ((by rw [hg]; exact (below_size (by repeat (first | (with_reducible first | exact HB.out | apply below_alloc | apply pw_below_drewN | apply below_drew1) | exact HB.out))) : w.heap.size ≤ gb624)); have n3_ := Aside0.mk ((by rw [hg]; exact (below_size (by repeat (first | (with_reducible first | exact HB.out | apply below_alloc | apply pw_below_drewN | apply below_drew1) | exact HB.out))) : w.heap.size ≤ gb624)); clear HB; have HB := n0_; have BK624 := n1_; have GW624 := n2_; have GE624 := n3_; clear n0_ n1_ n2_ n3_; clear hb hbox hg))
  (try simp only [Act.put, List.setIfInBounds_toArray, List.set_cons_zero, List.set_cons_succ])
  go_cut [15] (fun v15 wc => ∃ (kq : Nat) (x15_2 : Bool), v15 = .bool x15_2 ∧ Aside0 (impl_SumGrades.j0 kq l1 x15_2 a0_0 l0_1 l0_2 l0_3 = some r) ∧ Aside0 (kq ≤ k) ∧ Aside0 (wc.heap[gb624]? = some (.cells #[.int .i64 a0_0, (.slice A0_1 l0_1.length c0_1), (.slice A0_2 l0_2.length c0_2), (.slice A0_3 l0_3.length c0_3)] 28 (0, 0))) ∧ Aside0 (Below w.heap.size w wc))
  case first =>
    have H := HC3.out
    clear HC3
    replace H := Option.bind_eq_some_iff.mp H
    obtain ⟨t625, A50, H⟩ := H
    replace H : (if t625 = true then ((slices_ContainsFunc_int_int.f k l1 (fun z0_ => impl_SumGrades_1.f z0_ a0_0 l0_1 l0_2 l0_3)).bind fun t626 => (impl_SumGrades.j0 k l1 t626 a0_0 l0_1 l0_2 l0_3)) else (impl_SumGrades.j0 k l1 true a0_0 l0_1 l0_2 l0_3)) = some r := H
    have A5 := Aside0.mk A50
    clear A50
    by_cases c6 : t625 = true
    · subst c6
      have H1 : ((slices_ContainsFunc_int_int.f k l1 (fun z0_ => impl_SumGrades_1.f z0_ a0_0 l0_1 l0_2 l0_3)).bind fun t626 => (impl_SumGrades.j0 k l1 t626 a0_0 l0_1 l0_2 l0_3)) = some r := by rw [if_pos rfl] at H; exact H
      clear H
      have H := H1
      clear H1
      replace H := Option.bind_eq_some_iff.mp H
      obtain ⟨t626, A70, H⟩ := H
      replace H : (impl_SumGrades.j0 k l1 t626 a0_0 l0_1 l0_2 l0_3) = some r := H
      have A7 := Aside0.mk A70
      clear A70
      have H' := Aside0.mk H
      clear H
      have hcz8_0 : w4.cell? ⟨gb624, 0, none⟩ = some (.int .i64 a0_0) := (blk_cell BK624.out 0).trans rfl
      have hcz8_1 : w4.cell? ⟨gb624, 1, none⟩ = some (.slice A0_1 l0_1.length c0_1) := (blk_cell BK624.out 1).trans rfl
      have hcz8_2 : w4.cell? ⟨gb624, 2, none⟩ = some (.slice A0_2 l0_2.length c0_2) := (blk_cell BK624.out 2).trans rfl
      have hcz8_3 : w4.cell? ⟨gb624, 3, none⟩ = some (.slice A0_3 l0_3.length c0_3) := (blk_cell BK624.out 3).trans rfl
      have hfz8_0 := blk_frozen BK624.out 0
      have hfz8_1 := blk_frozen BK624.out 1
      have hfz8_2 := blk_frozen BK624.out 2
      have hfz8_3 := blk_frozen BK624.out 3
      go_wp2_with (first | ((with_reducible refine gate_callee (f := 18) rfl ?_); refine goesL_ (some 9) rfl rfl Try.func18 (by kernel_rfl) rfl #[.agg #[.int .i64 a0_0, .slice A0_1 l0_1.length c0_1, .slice A0_2 l0_2.length c0_2, .slice A0_3 l0_3.length c0_3]] rfl (by (try simp only [List.map_toArray, List.map_cons, List.map_nil]); first | done | rfl | (simp only [List.length_drop, List.length_take]; rfl)) ?_; (with_reducible refine (impl_IsSystem.calls k a0_0 _ _ l0_1 _ _ l0_2 _ _ l0_3 true _ ?side1 ?side2 ?side3 ?side4 ?side5 ?side6 A5.out).mono ?_); (case side1 => repeat (first | exact (Kd.C_below HR0_1.out HB.out) | (with_reducible refine Kd.C_alloc ?_ _) | (with_reducible refine Kd.C_drewN ?_ _) | (with_reducible refine Kd.C_drew ?_))); (case side2 => exact HC0_1.out); (case side3 => repeat (first | exact (Kd.C_below HR0_2.out HB.out) | (with_reducible refine Kd.C_alloc ?_ _) | (with_reducible refine Kd.C_drewN ?_ _) | (with_reducible refine Kd.C_drew ?_))); (case side4 => exact HC0_2.out); (case side5 => repeat (first | exact (Kd.C_below HR0_3.out HB.out) | (with_reducible refine Kd.C_alloc ?_ _) | (with_reducible refine Kd.C_drewN ?_ _) | (with_reducible refine Kd.C_drew ?_))); (case side6 => exact HC0_3.out); rintro e w9 ⟨rfl, hb⟩; refine ⟨_, rfl, ?_⟩; have n0_ := Aside0.mk (blk_below (g := gb624) (o := .cells #[.int .i64 a0_0, .slice A0_1 l0_1.length c0_1, .slice A0_2 l0_2.length c0_2, .slice A0_3 l0_3.length c0_3] 28 (0, 0)) (by (with_reducible repeat (first | refine blk_drewN ?_ _ | refine blk_drew ?_ | refine blk_alloc ?_ _)); exact BK624.out) hb); have n1_ := Aside0.mk (below_step (by repeat (first | (with_reducible first | exact HB.out | apply below_alloc | apply pw_below_drewN | apply below_drew1 | refine below_set ?_ GE624.out) | exact HB.out)) hb); clear BK624; clear HB; have BK624 := n0_; have HB := n1_; clear n0_ n1_; (try clear hb); (try clear hb2); (try clear hk); (try clear hi)) | (go_at_call 66; (with_reducible refine (slices_ContainsFunc_int_int.calls k _ _ l1 (fun z0_ => impl_SumGrades_1.f z0_ a0_0 l0_1 l0_2 l0_3) 67 #[] #[.pointer (some ⟨gb624, 0, none⟩)] t626 _ ?side1 ?side2 ?side3 ?side4 A7.out).mono ?_); (case side1 => repeat (first | exact (Kd.C_below HR1.out HB.out) | (with_reducible refine Kd.C_alloc ?_ _) | (with_reducible refine Kd.C_drewN ?_ _) | (with_reducible refine Kd.C_drew ?_))); (case side2 => exact HC1.out); (case side3 => exact ⟨_, Try.func67, (by kernel_rfl), rfl⟩); (case side4 => intro z0_0 rr0_0 w9_0  hb9_0 h9_0; refine calls_of_args (args' := #[.int .i64 z0_0, .pointer (some ⟨gb624, 0, none⟩)]) (by first | rfl | simp) ?_; refine (impl_SumGrades_1.calls z0_0 gb624 a0_0 _ _ l0_1 _ _ l0_2 _ _ l0_3 rr0_0 w9_0 (Kd.C_below (by repeat (first | exact (Kd.C_below HR0_1.out HB.out) | (with_reducible refine Kd.C_alloc ?_ _) | (with_reducible refine Kd.C_drewN ?_ _) | (with_reducible refine Kd.C_drew ?_))) hb9_0) (by exact HC0_1.out) (Kd.C_below (by repeat (first | exact (Kd.C_below HR0_2.out HB.out) | (with_reducible refine Kd.C_alloc ?_ _) | (with_reducible refine Kd.C_drewN ?_ _) | (with_reducible refine Kd.C_drew ?_))) hb9_0) (by exact HC0_2.out) (Kd.C_below (by repeat (first | exact (Kd.C_below HR0_3.out HB.out) | (with_reducible refine Kd.C_alloc ?_ _) | (with_reducible refine Kd.C_drewN ?_ _) | (with_reducible refine Kd.C_drew ?_))) hb9_0) (by exact HC0_3.out) (blk_below (by (with_reducible repeat (first | refine blk_drewN ?_ _ | refine blk_drew ?_ | refine blk_alloc ?_ _)); exact BK624.out) hb9_0) h9_0).mono ?_; exact fun _ _ h_ => h_); rintro e w10 ⟨rfl, hb⟩; have n0_ := Aside0.mk (blk_below (g := gb624) (o := .cells #[.int .i64 a0_0, .slice A0_1 l0_1.length c0_1, .slice A0_2 l0_2.length c0_2, .slice A0_3 l0_3.length c0_3] 28 (0, 0)) (by (with_reducible repeat (first | refine blk_drewN ?_ _ | refine blk_drew ?_ | refine blk_alloc ?_ _)); exact BK624.out) hb); have n1_ := Aside0.mk (below_step (by repeat (first | (with_reducible first | exact HB.out | apply below_alloc | apply pw_below_drewN | apply below_drew1 | refine below_set ?_ GE624.out) | exact HB.out)) hb); clear BK624; clear HB; have BK624 := n0_; have HB := n1_; clear n0_ n1_; (try clear hb); (try clear hb2); (try clear hk); (try clear hi)))
      go_meet
      case rel => exact ⟨_, (t626), (by first | rfl | (simp; done) | (simp [*]; done)), H', ⟨by first | omega | exact Nat.le_refl _⟩, ⟨by (with_reducible repeat (first | refine blk_drewN ?_ _ | refine blk_drew ?_ | refine blk_alloc ?_ _)); exact BK624.out⟩, ⟨by repeat (first | (with_reducible first | exact HB.out | apply below_alloc | apply pw_below_drewN | apply below_drew1 | refine below_set ?_ GE624.out) | exact HB.out)⟩⟩
    · replace c6 := Bool.eq_false_iff.mpr c6
      subst c6
      have H1 : (impl_SumGrades.j0 k l1 true a0_0 l0_1 l0_2 l0_3) = some r := by rw [if_neg (show ¬ (false = true) by decide)] at H; exact H
      clear H
      have H := H1
      clear H1
      have H' := Aside0.mk H
      clear H
      have hcz11_0 : w4.cell? ⟨gb624, 0, none⟩ = some (.int .i64 a0_0) := (blk_cell BK624.out 0).trans rfl
      have hcz11_1 : w4.cell? ⟨gb624, 1, none⟩ = some (.slice A0_1 l0_1.length c0_1) := (blk_cell BK624.out 1).trans rfl
      have hcz11_2 : w4.cell? ⟨gb624, 2, none⟩ = some (.slice A0_2 l0_2.length c0_2) := (blk_cell BK624.out 2).trans rfl
      have hcz11_3 : w4.cell? ⟨gb624, 3, none⟩ = some (.slice A0_3 l0_3.length c0_3) := (blk_cell BK624.out 3).trans rfl
      have hfz11_0 := blk_frozen BK624.out 0
      have hfz11_1 := blk_frozen BK624.out 1
      have hfz11_2 := blk_frozen BK624.out 2
      have hfz11_3 := blk_frozen BK624.out 3
      go_wp2_with (first | ((with_reducible refine gate_callee (f := 18) rfl ?_); refine goesL_ (some 9) rfl rfl Try.func18 (by kernel_rfl) rfl #[.agg #[.int .i64 a0_0, .slice A0_1 l0_1.length c0_1, .slice A0_2 l0_2.length c0_2, .slice A0_3 l0_3.length c0_3]] rfl (by (try simp only [List.map_toArray, List.map_cons, List.map_nil]); first | done | rfl | (simp only [List.length_drop, List.length_take]; rfl)) ?_; (with_reducible refine (impl_IsSystem.calls k a0_0 _ _ l0_1 _ _ l0_2 _ _ l0_3 false _ ?side1 ?side2 ?side3 ?side4 ?side5 ?side6 A5.out).mono ?_); (case side1 => repeat (first | exact (Kd.C_below HR0_1.out HB.out) | (with_reducible refine Kd.C_alloc ?_ _) | (with_reducible refine Kd.C_drewN ?_ _) | (with_reducible refine Kd.C_drew ?_))); (case side2 => exact HC0_1.out); (case side3 => repeat (first | exact (Kd.C_below HR0_2.out HB.out) | (with_reducible refine Kd.C_alloc ?_ _) | (with_reducible refine Kd.C_drewN ?_ _) | (with_reducible refine Kd.C_drew ?_))); (case side4 => exact HC0_2.out); (case side5 => repeat (first | exact (Kd.C_below HR0_3.out HB.out) | (with_reducible refine Kd.C_alloc ?_ _) | (with_reducible refine Kd.C_drewN ?_ _) | (with_reducible refine Kd.C_drew ?_))); (case side6 => exact HC0_3.out); rintro e w12 ⟨rfl, hb⟩; refine ⟨_, rfl, ?_⟩; have n0_ := Aside0.mk (blk_below (g := gb624) (o := .cells #[.int .i64 a0_0, .slice A0_1 l0_1.length c0_1, .slice A0_2 l0_2.length c0_2, .slice A0_3 l0_3.length c0_3] 28 (0, 0)) (by (with_reducible repeat (first | refine blk_drewN ?_ _ | refine blk_drew ?_ | refine blk_alloc ?_ _)); exact BK624.out) hb); have n1_ := Aside0.mk (below_step (by repeat (first | (with_reducible first | exact HB.out | apply below_alloc | apply pw_below_drewN | apply below_drew1 | refine below_set ?_ GE624.out) | exact HB.out)) hb); clear BK624; clear HB; have BK624 := n0_; have HB := n1_; clear n0_ n1_; (try clear hb); (try clear hb2); (try clear hk); (try clear hi)))
      go_meet
      case rel => exact ⟨_, (true), (by first | rfl | (simp; done) | (simp [*]; done)), H', ⟨by first | omega | exact Nat.le_refl _⟩, ⟨by (with_reducible repeat (first | refine blk_drewN ?_ _ | refine blk_drew ?_ | refine blk_alloc ?_ _)); exact BK624.out⟩, ⟨by repeat (first | (with_reducible first | exact HB.out | apply below_alloc | apply pw_below_drewN | apply below_drew1 | refine below_set ?_ GE624.out) | exact HB.out)⟩⟩
  case rest =>
    clear HC3
    try clear c1
    try clear c3
    obtain ⟨kq, x15_2, rfl, HA, HJ2, BK624, HB⟩ := hcut
    cases kq with
    | zero => exact absurd HA.out (by simp [impl_SumGrades.j0])
    | succ kj2 =>
      have H := HA.out
      clear HA
      simp only [impl_SumGrades.j0] at H
      by_cases c13 : x15_2 = true
      · subst c13
        have H1 : (some (-1)) = some r := by rw [if_pos rfl] at H; exact H
        clear H
        have H := H1
        clear H1
        obtain rfl := Option.some.inj H
        go_wp2
        go_ret
        exact ⟨by first | rfl | (simp [errW_none, errW_some] <;> rfl) | (simp [*, errW_none, errW_some] <;> rfl), by repeat (first | (with_reducible first | exact HB.out | apply below_alloc | apply pw_below_drewN | apply below_drew1 | refine below_set ?_ GE624.out) | exact HB.out)⟩
      · replace c13 := Bool.eq_false_iff.mpr c13
        subst c13
        have H1 : (impl_SumGrades.l0 kj2 0 l1 (l1.length : Int) 0 a0_0 l0_1 l0_2 l0_3) = some r := by rw [if_neg (show ¬ (false = true) by decide)] at H; exact H
        clear H
        have H := H1
        clear H1
        have H' := Aside0.mk H
        clear H
        go_wp2
        go_loopg [5, 18] kj2 (fun kq v5 v18 w' => ∃ (x5_2 : Int) (x18_2 : Int), v5 = .int .i64 x5_2 ∧ v18 = .int .i64 x18_2 ∧ Aside0 (impl_SumGrades.l0 kq x5_2 l1 (l1.length : Int) x18_2 a0_0 l0_1 l0_2 l0_3 = some r) ∧ Aside0 (kq ≤ kj2) ∧ Aside0 (w'.heap[gb624]? = some (.cells #[.int .i64 a0_0, (.slice A0_1 l0_1.length c0_1), (.slice A0_2 l0_2.length c0_2), (.slice A0_3 l0_3.length c0_3)] 28 (0, 0))) ∧ Aside0 (Below w.heap.size w w'))
        case atStart => exact ⟨(0), (0), (by first | rfl | (simp; done) | (simp [*]; done)), (by first | rfl | (simp; done) | (simp [*]; done)), H', ⟨Nat.le_refl _⟩, ⟨by (with_reducible repeat (first | refine blk_drewN ?_ _ | refine blk_drew ?_ | refine blk_alloc ?_ _)); exact BK624.out⟩, ⟨by repeat (first | (with_reducible first | exact HB.out | apply below_alloc | apply pw_below_drewN | apply below_drew1 | refine below_set ?_ GE624.out) | exact HB.out)⟩⟩
        case round =>
          clear H'
          try clear c1
          try clear p2
          try clear c3
          try clear c13
          obtain ⟨x5_2, x18_2, rfl, rfl, HA, HK2, BK624, HB⟩ := hrel
          cases gk with
          | zero => exact absurd HA.out (by simp [impl_SumGrades.l0])
          | succ k2 =>
            have H := HA.out
            clear HA
            simp only [impl_SumGrades.l0] at H
            by_cases c14 : x18_2 < (l1.length : Int)
            · rw [if_pos c14] at H
              have c14b0 : decide (x18_2 < (l1.length : Int)) = true := decide_eq_true c14
              clear c14
              by_cases c15 : 0 ≤ x18_2
              · rw [if_pos c15] at H
                have c15b0 : decide (0 ≤ x18_2) = true := decide_eq_true c15
                clear c15
                by_cases c16 : x18_2 < (l1.length : Int)
                · rw [if_pos c16] at H
                  have c16b0 : decide (x18_2 < (l1.length : Int)) = true := decide_eq_true c16
                  clear c16
                  replace H := Option.bind_eq_some_iff.mp H
                  obtain ⟨t628, A170, H⟩ := H
                  replace H : (impl_SumGrades.l0 k2 t628 l1 (l1.length : Int) (wrap64 (x18_2 + 1)) a0_0 l0_1 l0_2 l0_3) = some r := H
                  have A17 := Aside0.mk A170
                  clear A170
                  have H' := Aside0.mk H
                  clear H
                  have p627 : 0 ≤ (x18_2 : Int) := of_decide_eq_true (by first | (with_reducible assumption) | assumption)
                  have q627 : x18_2 < (l1.length : Int) := of_decide_eq_true (by first | (with_reducible assumption) | assumption)
                  obtain ⟨ad627, e627, hx627_0⟩ := Kd.at_int HR1.out x18_2 p627 q627
                  cases e627
                  replace hx627_0 := (HB.out.cell (World.block_lt_of_cell? w _ hx627_0)).trans hx627_0
                  replace p627 := eq_true p627
                  replace q627 := eq_true q627
                  have hcz18_0 : wr.cell? ⟨gb624, 0, none⟩ = some (.int .i64 a0_0) := (blk_cell BK624.out 0).trans rfl
                  have hcz18_1 : wr.cell? ⟨gb624, 1, none⟩ = some (.slice A0_1 l0_1.length c0_1) := (blk_cell BK624.out 1).trans rfl
                  have hcz18_2 : wr.cell? ⟨gb624, 2, none⟩ = some (.slice A0_2 l0_2.length c0_2) := (blk_cell BK624.out 2).trans rfl
                  have hcz18_3 : wr.cell? ⟨gb624, 3, none⟩ = some (.slice A0_3 l0_3.length c0_3) := (blk_cell BK624.out 3).trans rfl
                  have hfz18_0 := blk_frozen BK624.out 0
                  have hfz18_1 := blk_frozen BK624.out 1
                  have hfz18_2 := blk_frozen BK624.out 2
                  have hfz18_3 := blk_frozen BK624.out 3
                  go_wp2_with (first | ((with_reducible refine gate_callee (f := 53) rfl ?_); refine goesL_ (some 25) rfl rfl Try.func53 (by kernel_rfl) rfl #[.agg #[.int .i64 a0_0, .slice A0_1 l0_1.length c0_1, .slice A0_2 l0_2.length c0_2, .slice A0_3 l0_3.length c0_3], .int .i64 x5_2, .int .i64 (rd l1 x18_2)] rfl (by (try simp only [List.map_toArray, List.map_cons, List.map_nil]); first | done | rfl | (simp only [List.length_drop, List.length_take]; rfl)) ?_; (with_reducible refine (impl_System_plus.calls a0_0 _ _ l0_1 _ _ l0_2 _ _ l0_3 x5_2 (rd l1 x18_2) t628 _ ?side1 ?side2 ?side3 ?side4 ?side5 ?side6 A17.out).mono ?_); (case side1 => repeat (first | exact (Kd.C_below HR0_1.out HB.out) | (with_reducible refine Kd.C_alloc ?_ _) | (with_reducible refine Kd.C_drewN ?_ _) | (with_reducible refine Kd.C_drew ?_))); (case side2 => exact HC0_1.out); (case side3 => repeat (first | exact (Kd.C_below HR0_2.out HB.out) | (with_reducible refine Kd.C_alloc ?_ _) | (with_reducible refine Kd.C_drewN ?_ _) | (with_reducible refine Kd.C_drew ?_))); (case side4 => exact HC0_2.out); (case side5 => repeat (first | exact (Kd.C_below HR0_3.out HB.out) | (with_reducible refine Kd.C_alloc ?_ _) | (with_reducible refine Kd.C_drewN ?_ _) | (with_reducible refine Kd.C_drew ?_))); (case side6 => exact HC0_3.out); rintro e w19 ⟨rfl, hb⟩; refine ⟨_, rfl, ?_⟩; have n0_ := Aside0.mk (blk_below (g := gb624) (o := .cells #[.int .i64 a0_0, .slice A0_1 l0_1.length c0_1, .slice A0_2 l0_2.length c0_2, .slice A0_3 l0_3.length c0_3] 28 (0, 0)) (by (with_reducible repeat (first | refine blk_drewN ?_ _ | refine blk_drew ?_ | refine blk_alloc ?_ _)); exact BK624.out) hb); have n1_ := Aside0.mk (below_step (by repeat (first | (with_reducible first | exact HB.out | apply below_alloc | apply pw_below_drewN | apply below_drew1 | refine below_set ?_ GE624.out) | exact HB.out)) hb); clear BK624; clear HB; have BK624 := n0_; have HB := n1_; clear n0_ n1_; (try clear hb); (try clear hb2); (try clear hk); (try clear hi)))
                  go_roundg k2
                  case measure => have := HJ2.out; have := HK2.out; omega
                  case rel => exact ⟨(t628), (wrap64 (x18_2 + 1)), (by first | rfl | (simp; done) | (simp [*]; done)), (by first | rfl | (simp; done) | (simp [*]; done)), H', ⟨by have := HJ2.out; have := HK2.out; omega⟩, ⟨by (with_reducible repeat (first | refine blk_drewN ?_ _ | refine blk_drew ?_ | refine blk_alloc ?_ _)); exact BK624.out⟩, ⟨by repeat (first | (with_reducible first | exact HB.out | apply below_alloc | apply pw_below_drewN | apply below_drew1 | refine below_set ?_ GE624.out) | exact HB.out)⟩⟩
                · rw [if_neg c16] at H
                  exact absurd H (by simp)
              · rw [if_neg c15] at H
                exact absurd H (by simp)
            · rw [if_neg c14] at H
              have c14b0 : decide (x18_2 < (l1.length : Int)) = false := decide_eq_false c14
              clear c14
              obtain rfl := Option.some.inj H
              go_wp2
              go_ret
              exact ⟨by first | rfl | (simp [errW_none, errW_some] <;> rfl) | (simp [*, errW_none, errW_some] <;> rfl), by repeat (first | (with_reducible first | exact HB.out | apply below_alloc | apply pw_below_drewN | apply below_drew1 | refine below_set ?_ GE624.out) | exact HB.out)⟩

end Go.Proofs.Ythdbijjkcoafiaa.P
