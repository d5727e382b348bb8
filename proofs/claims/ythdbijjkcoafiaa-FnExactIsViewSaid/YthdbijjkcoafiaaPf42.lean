-- Printed by this session's own program (wip/tools/mkprint.py) out of the translation. Not trusted: Lean checks it.
import Derived.Test.YthdbijjkcoafiaaP0
import Derived.Test.YthdbijjkcoafiaaPf16
import Derived.Test.YthdbijjkcoafiaaPf59
import Derived.Test.YthdbijjkcoafiaaPf69
namespace Go.Proofs.Ythdbijjkcoafiaa.P
open Go.RowKit Go.Proofs.YthdbijjkcoafiaaW.PrintWords Go.Proofs.YthdbijjkcoafiaaW.PrintLast Go.Proofs.YthdbijjkcoafiaaW.PrintMore
attribute [local go_sem] max2_int min2_int max_two min_two max_three min_three max_four min_four   -- for this text's walks alone
set_option linter.unusedVariables false
set_option linter.unusedSimpArgs false

/-! ### spec_IsView: function 42 -/
def spec_IsView.l0 : Nat → List Int → List Bool → Int → Int → List Int → List Int → List Bool → Option (Bool)
  | 0, _, _, _, _, _, _, _ => none
  | k + 1, x1, x5, x6, x868000, x868001, x868002, x868003 => if x6 < (x1.length : Int) then (if 0 ≤ x6 then ((spec_l1In.f (rd x1 x6) 0 (wrap64 (x868000 - 1))).bind fun t873 => (if t873 = true then (if x6 > 0 then (if 0 ≤ (wrap64 (x6 - 1)) then (if (wrap64 (x6 - 1)) < (x1.length : Int) then (if (rd x1 x6) ≤ (rd x1 (wrap64 (x6 - 1))) then (some false) else (if 0 ≤ (rd x1 x6) then (if (rd x1 x6) < (x5.length : Int) then (spec_IsView.l0 k x1 (x5.set ((rd x1 x6) : Int).toNat true) (wrap64 (x6 + 1)) x868000 x868001 x868002 x868003) else (none)) else (none))) else (none)) else (none)) else (if 0 ≤ (rd x1 x6) then (if (rd x1 x6) < (x5.length : Int) then (spec_IsView.l0 k x1 (x5.set ((rd x1 x6) : Int).toNat true) (wrap64 (x6 + 1)) x868000 x868001 x868002 x868003) else (none)) else (none))) else (some false))) else (none)) else ((spec_l1View.f k x868000 x868001 x868002 x868003 x5).bind fun t880 => (some t880))
def spec_IsView.f (k : Nat) (a0_0 : Int) (l0_1 : List Int) (l0_2 : List Int) (l0_3 : List Bool) (l1 : List Int) : Option (Bool) := (spec_IsSystem.f k a0_0 l0_1 l0_2 l0_3).bind fun t868 => (if t868 = true then (if 0 ≤ a0_0 then (if (a0_0 : Int).toNat ≤ 281474976710656 then (spec_IsView.l0 k l1 (List.replicate (a0_0 : Int).toNat false) 0 a0_0 l0_1 l0_2 l0_3) else (none)) else (none)) else (some false))
set_option maxHeartbeats 8000000 in
set_option maxRecDepth 100000 in
theorem spec_IsView.calls (k : Nat) (a0_0 : Int) (A0_1 : Option Addr) (c0_1 : Nat) (l0_1 : List Int) (A0_2 : Option Addr) (c0_2 : Nat) (l0_2 : List Int) (A0_3 : Option Addr) (c0_3 : Nat) (l0_3 : List Bool) (A1 : Option Addr) (c1 : Nat) (l1 : List Int) (r : Bool) (w : World) (hr0_1 : Kd.C (Kd.int .i64) w A0_1 l0_1.length l0_1) (hc0_1 : l0_1.length ≤ c0_1) (hr0_2 : Kd.C (Kd.int .i64) w A0_2 l0_2.length l0_2) (hc0_2 : l0_2.length ≤ c0_2) (hr0_3 : Kd.C Kd.bool w A0_3 l0_3.length l0_3) (hc0_3 : l0_3.length ≤ c0_3) (hr1 : Kd.C (Kd.int .i64) w A1 l1.length l1) (hc1 : l1.length ≤ c1) (h : spec_IsView.f k a0_0 l0_1 l0_2 l0_3 l1 = some r) :
    Calls Try.prog 42 #[.agg #[.int .i64 a0_0, .slice A0_1 l0_1.length c0_1, .slice A0_2 l0_2.length c0_2, .slice A0_3 l0_3.length c0_3], .slice A1 l1.length c1] w fun e w' => e = .returned (.bool r) ∧ Below w.heap.size w w' := by
  have hu28 := Try.underlying28
  have HR0_1 := Aside0.mk hr0_1
  have HC0_1 := Aside0.mk hc0_1
  clear hr0_1 hc0_1
  have HR0_2 := Aside0.mk hr0_2
  have HC0_2 := Aside0.mk hc0_2
  clear hr0_2 hc0_2
  have HR0_3 := Aside0.mk hr0_3
  have HC0_3 := Aside0.mk hc0_3
  clear hr0_3 hc0_3
  have HR1 := Aside0.mk hr1
  have HC1 := Aside0.mk hc1
  clear hr1 hc1
  have HB := Aside0.mk (Below.refl w.heap.size w)
  have H : ((spec_IsSystem.f k a0_0 l0_1 l0_2 l0_3).bind fun t868 => (if t868 = true then (if 0 ≤ a0_0 then (if (a0_0 : Int).toNat ≤ 281474976710656 then (spec_IsView.l0 k l1 (List.replicate (a0_0 : Int).toNat false) 0 a0_0 l0_1 l0_2 l0_3) else (none)) else (none)) else (some false))) = some r := h
  clear h
  replace H := Option.bind_eq_some_iff.mp H
  obtain ⟨t868, A30, H⟩ := H
  replace H : (if t868 = true then (if 0 ≤ a0_0 then (if (a0_0 : Int).toNat ≤ 281474976710656 then (spec_IsView.l0 k l1 (List.replicate (a0_0 : Int).toNat false) 0 a0_0 l0_1 l0_2 l0_3) else (none)) else (none)) else (some false)) = some r := H
  have A3 := Aside0.mk A30
  clear A30
  by_cases c4 : t868 = true
  · subst c4
    have H1 : (if 0 ≤ a0_0 then (if (a0_0 : Int).toNat ≤ 281474976710656 then (spec_IsView.l0 k l1 (List.replicate (a0_0 : Int).toNat false) 0 a0_0 l0_1 l0_2 l0_3) else (none)) else (none)) = some r := by rw [if_pos rfl] at H; exact H
    clear H
    have H := H1
    clear H1
    by_cases c5 : 0 ≤ a0_0
    · rw [if_pos c5] at H
      have c5b0 := eq_true c5
      have c5b1 : decide (0 ≤ a0_0) = true := decide_eq_true c5
      clear c5
      by_cases c6 : (a0_0 : Int).toNat ≤ 281474976710656
      · rw [if_pos c6] at H
        have c6b0 := eq_true c6
        have c6b1 : decide ((a0_0 : Int).toNat ≤ 281474976710656) = true := decide_eq_true c6
        clear c6
        obtain ⟨y869, hy869⟩ : ∃ y_ : List Bool, y_ = (List.replicate (a0_0 : Int).toNat false) := ⟨_, rfl⟩
        replace H : (spec_IsView.l0 k l1 y869 0 a0_0 l0_1 l0_2 l0_3) = some r := by first | (rw [hy869]; with_reducible exact H) | (have H2_ := (Option.bind_some _ _).symm.trans H; rw [hy869]; with_reducible exact H2_) | (have H2_ := (Option.bind_some _ _).symm.trans H; with_reducible exact H2_) | with_reducible exact H | (rw [hy869]; exact H) | exact H
        have Ny869 := Aside0.mk hy869
        clear hy869
        have H' := Aside0.mk H
        clear H
        go_enter Try.func42, Try.ntmps42
        go_wp2_with (first | ((with_reducible refine gate_dst (N := 2) rfl ?_); refine box_event ?hg (N := 2) ?hd (cs := #[.int .i64 a0_0, .slice A0_1 l0_1.length c0_1, .slice A0_2 l0_2.length c0_2, .slice A0_3 l0_3.length c0_3]) (t := 28) ?hr ?_; (case hd => rfl); (case hg => rfl); (case hr => first | (go_simp; done) | (go_simp; rfl)); intro gb867 hg w7 hbox hb; have n0_ := Aside0.mk (below_step (by repeat (first | (with_reducible first | exact HB.out | apply below_alloc | apply pw_below_drewN | apply below_drew1) | exact HB.out)) hb); have n1_ := Aside0.mk (hbox); have n2_ := Aside0.mk ((by rw [hg]; exact (below_size (by repeat (first | (with_reducible first | exact HB.out | apply below_alloc | apply pw_below_drewN | apply below_drew1) | exact HB.out))) : w.heap.size ≤ gb867)); have n3_ := Aside0.mk ((by rw [hg]; exact (below_size (by repeat (first | (with_reducible first | exact HB.out | apply below_alloc | apply pw_below_drewN | apply below_drew1) | exact HB.out))) : w.heap.size ≤ gb867)); clear HB; have HB := n0_; have BK867 := n1_; have GW867 := n2_; have GE867 := n3_; clear n0_ n1_ n2_ n3_; clear hb hbox hg; have hcz8_0 : w7.cell? ⟨gb867, 0, none⟩ = some (.int .i64 a0_0) := (blk_cell BK867.out 0).trans rfl; have hcz8_1 : w7.cell? ⟨gb867, 1, none⟩ = some (.slice A0_1 l0_1.length c0_1) := (blk_cell BK867.out 1).trans rfl; have hcz8_2 : w7.cell? ⟨gb867, 2, none⟩ = some (.slice A0_2 l0_2.length c0_2) := (blk_cell BK867.out 2).trans rfl; have hcz8_3 : w7.cell? ⟨gb867, 3, none⟩ = some (.slice A0_3 l0_3.length c0_3) := (blk_cell BK867.out 3).trans rfl; have hfz8_0 := blk_frozen BK867.out 0; have hfz8_1 := blk_frozen BK867.out 1; have hfz8_2 := blk_frozen BK867.out 2; have hfz8_3 := blk_frozen BK867.out 3) | ((with_reducible refine gate_callee (f := 16) rfl ?_); refine goesL_ (some 8) rfl rfl Try.func16 (by kernel_rfl) rfl #[.agg #[.int .i64 a0_0, .slice A0_1 l0_1.length c0_1, .slice A0_2 l0_2.length c0_2, .slice A0_3 l0_3.length c0_3]] rfl (by (try simp only [List.map_toArray, List.map_cons, List.map_nil]); first | done | rfl | (simp only [List.length_drop, List.length_take]; rfl)) ?_; (with_reducible refine (spec_IsSystem.calls k a0_0 _ _ l0_1 _ _ l0_2 _ _ l0_3 true _ ?side1 ?side2 ?side3 ?side4 ?side5 ?side6 A3.out).mono ?_); (case side1 => repeat (first | exact (Kd.C_below HR0_1.out HB.out) | (with_reducible refine Kd.C_alloc ?_ _) | (with_reducible refine Kd.C_drewN ?_ _) | (with_reducible refine Kd.C_drew ?_))); (case side2 => exact HC0_1.out); (case side3 => repeat (first | exact (Kd.C_below HR0_2.out HB.out) | (with_reducible refine Kd.C_alloc ?_ _) | (with_reducible refine Kd.C_drewN ?_ _) | (with_reducible refine Kd.C_drew ?_))); (case side4 => exact HC0_2.out); (case side5 => repeat (first | exact (Kd.C_below HR0_3.out HB.out) | (with_reducible refine Kd.C_alloc ?_ _) | (with_reducible refine Kd.C_drewN ?_ _) | (with_reducible refine Kd.C_drew ?_))); (case side6 => exact HC0_3.out); rintro e w9 ⟨rfl, hb⟩; refine ⟨_, rfl, ?_⟩; have n0_ := Aside0.mk (blk_below (g := gb867) (o := .cells #[.int .i64 a0_0, .slice A0_1 l0_1.length c0_1, .slice A0_2 l0_2.length c0_2, .slice A0_3 l0_3.length c0_3] 28 (0, 0)) (by (with_reducible repeat (first | refine blk_drewN ?_ _ | refine blk_drew ?_ | refine blk_alloc ?_ _)); exact BK867.out) hb); have n1_ := Aside0.mk (below_step (by repeat (first | (with_reducible first | exact HB.out | apply below_alloc | apply pw_below_drewN | apply below_drew1 | refine below_set ?_ GE867.out) | exact HB.out)) hb); clear BK867; clear HB; have BK867 := n0_; have HB := n1_; clear n0_ n1_; (try clear hb); (try clear hb2); (try clear hk); (try clear hi); have hcz10_0 : w9.cell? ⟨gb867, 0, none⟩ = some (.int .i64 a0_0) := (blk_cell BK867.out 0).trans rfl; have hcz10_1 : w9.cell? ⟨gb867, 1, none⟩ = some (.slice A0_1 l0_1.length c0_1) := (blk_cell BK867.out 1).trans rfl; have hcz10_2 : w9.cell? ⟨gb867, 2, none⟩ = some (.slice A0_2 l0_2.length c0_2) := (blk_cell BK867.out 2).trans rfl; have hcz10_3 : w9.cell? ⟨gb867, 3, none⟩ = some (.slice A0_3 l0_3.length c0_3) := (blk_cell BK867.out 3).trans rfl; have hfz10_0 := blk_frozen BK867.out 0; have hfz10_1 := blk_frozen BK867.out 1; have hfz10_2 := blk_frozen BK867.out 2; have hfz10_3 := blk_frozen BK867.out 3) | ((with_reducible refine gate_dst (N := 12) rfl ?_); refine Kd.R_make Kd.bool _ 4 rfl (N := 12) rfl 23 _ _ rfl a0_0 rfl rfl Try.underlying23 (.bool false) 1 info4 rfl (by decide) (by omega) false (ok := fun _ => True) (okp := fun _ => True) rfl (fun _ hk => hk) trivial (of_decide_eq_true (by first | (with_reducible assumption) | assumption)) (Nat.le_trans (Nat.mul_le_mul_right _ (of_decide_eq_true (by first | (with_reducible assumption) | assumption) : a0_0.toNat ≤ 281474976710656)) (by omega)) (Below.refl _ _) (Nat.le_refl _) ?_; intro v870 w11 ho12 hb hg_ hnew_; clear hg_ hnew_; (first | rw [← Ny869.out] at ho12 | (simp only [Int.reduceToNat] at ho12; rw [← Ny869.out] at ho12)); have n0_ := Aside0.mk (Kd.R_lower ho12 (below_size (by repeat (first | (with_reducible first | exact HB.out | apply below_alloc | apply pw_below_drewN | apply below_drew1 | refine below_set ?_ GE867.out) | exact HB.out)))); have n1_ := Aside0.mk (blk_below (g := gb867) (o := .cells #[.int .i64 a0_0, .slice A0_1 l0_1.length c0_1, .slice A0_2 l0_2.length c0_2, .slice A0_3 l0_3.length c0_3] 28 (0, 0)) (by (with_reducible repeat (first | refine blk_drewN ?_ _ | refine blk_drew ?_ | refine blk_alloc ?_ _)); exact BK867.out) hb); have n2_ := Aside0.mk (below_step (by repeat (first | (with_reducible first | exact HB.out | apply below_alloc | apply pw_below_drewN | apply below_drew1 | refine below_set ?_ GE867.out) | exact HB.out)) hb); clear BK867; clear HB; have HO871 := n0_; have BK867 := n1_; have HB := n2_; clear n0_ n1_ n2_; clear hb ho12))
        go_loopg [6] k (fun kq v6 w' => ∃ (x5_1 : List Bool) (x6_1 : Int), v6 = .int .i64 x6_1 ∧ Aside0 (spec_IsView.l0 kq l1 x5_1 x6_1 a0_0 l0_1 l0_2 l0_3 = some r) ∧ Aside0 (kq ≤ k) ∧ Aside0 (Kd.R Kd.bool 4 w' w.heap.size (fun _ => True) v870 x5_1) ∧ Aside0 (w'.heap[gb867]? = some (.cells #[.int .i64 a0_0, (.slice A0_1 l0_1.length c0_1), (.slice A0_2 l0_2.length c0_2), (.slice A0_3 l0_3.length c0_3)] 28 (0, 0))) ∧ Aside0 (Below w.heap.size w w'))
        case atStart => exact ⟨(y869), (0), (by first | rfl | (simp; done) | (simp [*]; done)), H', ⟨Nat.le_refl _⟩, ⟨by (with_reducible repeat (first | apply Kd.R_alloc | apply Kd.R_drewN | apply Kd.R_drew)); exact HO871.out⟩, ⟨by (with_reducible repeat (first | refine blk_drewN ?_ _ | refine blk_drew ?_ | refine blk_alloc ?_ _)); exact BK867.out⟩, ⟨by repeat (first | (with_reducible first | exact HB.out | apply below_alloc | apply pw_below_drewN | apply below_drew1 | refine below_set ?_ GE867.out) | exact HB.out)⟩⟩
        case round =>
          clear H'
          try clear c1
          try clear p2
          try clear c4
          try clear c5
          try clear c5b0
          try clear c5b1
          try clear c6
          try clear c6b0
          try clear c6b1
          try clear hcz10_0
          try clear hcz10_1
          try clear hcz10_2
          try clear hcz10_3
          try clear hcz8_0
          try clear hcz8_1
          try clear hcz8_2
          try clear hcz8_3
          try clear hfz10_0
          try clear hfz10_1
          try clear hfz10_2
          try clear hfz10_3
          try clear hfz8_0
          try clear hfz8_1
          try clear hfz8_2
          try clear hfz8_3
          obtain ⟨x5_1, x6_1, rfl, HA, HK1, HO_5, BK867, HB⟩ := hrel
          cases gk with
          | zero => exact absurd HA.out (by simp [spec_IsView.l0])
          | succ k1 =>
            have H := HA.out
            clear HA
            simp only [spec_IsView.l0] at H
            by_cases c13 : x6_1 < (l1.length : Int)
            · rw [if_pos c13] at H
              have c13b0 : decide (x6_1 < (l1.length : Int)) = true := decide_eq_true c13
              clear c13
              by_cases c14 : 0 ≤ x6_1
              · rw [if_pos c14] at H
                have c14b0 : decide (0 ≤ x6_1) = true := decide_eq_true c14
                clear c14
                replace H := Option.bind_eq_some_iff.mp H
                obtain ⟨t873, A150, H⟩ := H
                replace H : (if t873 = true then (if x6_1 > 0 then (if 0 ≤ (wrap64 (x6_1 - 1)) then (if (wrap64 (x6_1 - 1)) < (l1.length : Int) then (if (rd l1 x6_1) ≤ (rd l1 (wrap64 (x6_1 - 1))) then (some false) else (if 0 ≤ (rd l1 x6_1) then (if (rd l1 x6_1) < (x5_1.length : Int) then (spec_IsView.l0 k1 l1 (x5_1.set ((rd l1 x6_1) : Int).toNat true) (wrap64 (x6_1 + 1)) a0_0 l0_1 l0_2 l0_3) else (none)) else (none))) else (none)) else (none)) else (if 0 ≤ (rd l1 x6_1) then (if (rd l1 x6_1) < (x5_1.length : Int) then (spec_IsView.l0 k1 l1 (x5_1.set ((rd l1 x6_1) : Int).toNat true) (wrap64 (x6_1 + 1)) a0_0 l0_1 l0_2 l0_3) else (none)) else (none))) else (some false)) = some r := H
                have A15 := Aside0.mk A150
                clear A150
                by_cases c16 : t873 = true
                · subst c16
                  have H1 : (if x6_1 > 0 then (if 0 ≤ (wrap64 (x6_1 - 1)) then (if (wrap64 (x6_1 - 1)) < (l1.length : Int) then (if (rd l1 x6_1) ≤ (rd l1 (wrap64 (x6_1 - 1))) then (some false) else (if 0 ≤ (rd l1 x6_1) then (if (rd l1 x6_1) < (x5_1.length : Int) then (spec_IsView.l0 k1 l1 (x5_1.set ((rd l1 x6_1) : Int).toNat true) (wrap64 (x6_1 + 1)) a0_0 l0_1 l0_2 l0_3) else (none)) else (none))) else (none)) else (none)) else (if 0 ≤ (rd l1 x6_1) then (if (rd l1 x6_1) < (x5_1.length : Int) then (spec_IsView.l0 k1 l1 (x5_1.set ((rd l1 x6_1) : Int).toNat true) (wrap64 (x6_1 + 1)) a0_0 l0_1 l0_2 l0_3) else (none)) else (none))) = some r := by rw [if_pos rfl] at H; exact H
                  clear H
                  have H := H1
                  clear H1
                  by_cases c17 : x6_1 > 0
                  · rw [if_pos c17] at H
                    have c17b0 : decide (0 < x6_1) = true := decide_eq_true c17
                    clear c17
                    obtain ⟨ji18, hji18⟩ : ∃ j_ : Int, (wrap64 (x6_1 - 1)) = j_ := ⟨_, rfl⟩
                    replace H : (if 0 ≤ (ji18) then (if (ji18) < (l1.length : Int) then (if (rd l1 x6_1) ≤ (rd l1 (ji18)) then (some false) else (if 0 ≤ (rd l1 x6_1) then (if (rd l1 x6_1) < (x5_1.length : Int) then (spec_IsView.l0 k1 l1 (x5_1.set ((rd l1 x6_1) : Int).toNat true) (wrap64 (x6_1 + 1)) a0_0 l0_1 l0_2 l0_3) else (none)) else (none))) else (none)) else (none)) = some r := by first | (rw [hji18] at H; exact H) | (simp only [hji18] at H ⊢; exact H)
                    (try rw [hji18] at A15)
                    have hji18w : (IntKind.i64.wrap (x6_1 - 1)) = ji18 := (i64_w _).trans hji18
                    by_cases c19 : 0 ≤ (ji18)
                    · rw [if_pos c19] at H
                      have c19b0 : decide (0 ≤ (ji18)) = true := decide_eq_true c19
                      clear c19
                      by_cases c20 : (ji18) < (l1.length : Int)
                      · rw [if_pos c20] at H
                        have c20b0 : decide ((ji18) < (l1.length : Int)) = true := decide_eq_true c20
                        clear c20
                        by_cases c21 : (rd l1 x6_1) ≤ (rd l1 (ji18))
                        · rw [if_pos c21] at H
                          have c21b0 : decide ((rd l1 x6_1) ≤ (rd l1 (ji18))) = true := decide_eq_true c21
                          clear c21
                          obtain rfl := Option.some.inj H
                          try go_wp2
                          have p872 : 0 ≤ (x6_1 : Int) := of_decide_eq_true (by first | (with_reducible assumption) | assumption)
                          have q872 : x6_1 < (l1.length : Int) := of_decide_eq_true (by first | (with_reducible assumption) | assumption)
                          obtain ⟨ad872, e872, hx872_0⟩ := Kd.at_int HR1.out x6_1 p872 q872
                          cases e872
                          replace hx872_0 := (HB.out.cell (World.block_lt_of_cell? w _ hx872_0)).trans hx872_0
                          replace p872 := eq_true p872
                          replace q872 := eq_true q872
                          have p874 : 0 ≤ (x6_1 : Int) := of_decide_eq_true (by first | (with_reducible assumption) | assumption)
                          have q874 : x6_1 < (l1.length : Int) := of_decide_eq_true (by first | (with_reducible assumption) | assumption)
                          obtain ⟨ad874, e874, hx874_0⟩ := Kd.at_int HR1.out x6_1 p874 q874
                          obtain rfl : ad872 = ad874 := (by injection e874)
                          replace hx874_0 := (HB.out.cell (World.block_lt_of_cell? w _ hx874_0)).trans hx874_0
                          replace p874 := eq_true p874
                          replace q874 := eq_true q874
                          have p875 : 0 ≤ ((ji18) : Int) := of_decide_eq_true (by first | (with_reducible assumption) | assumption)
                          have q875 : (ji18) < (l1.length : Int) := of_decide_eq_true (by first | (with_reducible assumption) | assumption)
                          obtain ⟨ad875, e875, hx875_0⟩ := Kd.at_int HR1.out (ji18) p875 q875
                          obtain rfl : ad872 = ad875 := (by injection e875)
                          replace hx875_0 := (HB.out.cell (World.block_lt_of_cell? w _ hx875_0)).trans hx875_0
                          replace p875 := eq_true p875
                          replace q875 := eq_true q875
                          refine qb_region (by kernel_rfl) (by kernel_rfl) ?_
                          repeat ((first | (apply qb_skip; (focus rfl)) | (refine qb_callN 26 rfl ?_; apply qb_call 26 rfl Try.func59 (by kernel_rfl) rfl rfl; (focus rfl); (focus (exact fun wq9 hb9 => qb_d hb9 (spec_l1In.calls (rd l1 x6_1) 0 (wrap64 (a0_0 - 1)) true _ A15.out))); (focus (rfl))) | (apply qb_val; (focus rfl); (focus (intro wq9 _; go_simp; with_reducible rfl))) | (apply qb_val; (focus rfl); (focus (intro wq9 hb9_; have hb9 : Below wr.heap.size wr wq9 := hb9_; have BK867 := Aside0.mk (blk_below BK867.out hb9); have hc9_867_0 : wq9.cell? ⟨gb867, 0, none⟩ = some (.int .i64 a0_0) := (blk_cell BK867.out 0).trans rfl; have hc9_867_1 : wq9.cell? ⟨gb867, 1, none⟩ = some (.slice A0_1 l0_1.length c0_1) := (blk_cell BK867.out 1).trans rfl; have hc9_867_2 : wq9.cell? ⟨gb867, 2, none⟩ = some (.slice A0_2 l0_2.length c0_2) := (blk_cell BK867.out 2).trans rfl; have hc9_867_3 : wq9.cell? ⟨gb867, 3, none⟩ = some (.slice A0_3 l0_3.length c0_3) := (blk_cell BK867.out 3).trans rfl; have hx872_0 := (hb9.cell (World.block_lt_of_cell? _ _ hx872_0)).trans hx872_0; have hx874_0 := (hb9.cell (World.block_lt_of_cell? _ _ hx874_0)).trans hx874_0; have hx875_0 := (hb9.cell (World.block_lt_of_cell? _ _ hx875_0)).trans hx875_0; go_simp; with_reducible rfl)))); (focus (simp only [Act.put, List.setIfInBounds_toArray, List.set_cons_zero, List.set_cons_succ, i64_w, i32_w]; rfl)))
                          refine qb_nil ?_
                          intro w22 hb
                          have n0_ := Aside0.mk (Kd.R_below HO_5.out hb)
                          have n1_ := Aside0.mk (blk_below BK867.out hb)
                          have n2_ := Aside0.mk (below_step HB.out hb)
                          clear HO_5
                          clear BK867
                          clear HB
                          have HO_5 := n0_
                          have BK867 := n1_
                          have HB := n2_
                          clear n0_ n1_ n2_
                          clear hb
                          (try clear HQ)
                          try go_wp2
                          go_ret
                          exact ⟨by first | rfl | (simp [errW_none, errW_some] <;> rfl) | (simp only [← hji18]; first | rfl | (simp [errW_none, errW_some] <;> rfl)) | (simp [*, errW_none, errW_some] <;> rfl), by repeat (first | (with_reducible first | exact HB.out | apply below_alloc | apply pw_below_drewN | apply below_drew1 | refine below_set ?_ GE867.out) | exact HB.out)⟩
                        · rw [if_neg c21] at H
                          have c21b0 : decide ((rd l1 x6_1) ≤ (rd l1 (ji18))) = false := decide_eq_false c21
                          clear c21
                          by_cases c23 : 0 ≤ (rd l1 x6_1)
                          · rw [if_pos c23] at H
                            have c23b0 : decide (0 ≤ (rd l1 x6_1)) = true := decide_eq_true c23
                            clear c23
                            by_cases c24 : (rd l1 x6_1) < (x5_1.length : Int)
                            · rw [if_pos c24] at H
                              have c24b0 : decide ((rd l1 x6_1) < (x5_1.length : Int)) = true := decide_eq_true c24
                              clear c24
                              obtain ⟨y877, hy877⟩ : ∃ y_ : List Bool, y_ = (x5_1.set ((rd l1 x6_1) : Int).toNat true) := ⟨_, rfl⟩
                              replace H : (spec_IsView.l0 k1 l1 y877 (wrap64 (x6_1 + 1)) a0_0 l0_1 l0_2 l0_3) = some r := by first | (rw [hy877]; with_reducible exact H) | (have H2_ := (Option.bind_some _ _).symm.trans H; rw [hy877]; with_reducible exact H2_) | (have H2_ := (Option.bind_some _ _).symm.trans H; with_reducible exact H2_) | with_reducible exact H | (rw [hy877]; exact H) | exact H
                              have Ny877 := Aside0.mk hy877
                              clear hy877
                              have H' := Aside0.mk H
                              clear H
                              try go_wp2
                              have p872 : 0 ≤ (x6_1 : Int) := of_decide_eq_true (by first | (with_reducible assumption) | assumption)
                              have q872 : x6_1 < (l1.length : Int) := of_decide_eq_true (by first | (with_reducible assumption) | assumption)
                              obtain ⟨ad872, e872, hx872_0⟩ := Kd.at_int HR1.out x6_1 p872 q872
                              cases e872
                              replace hx872_0 := (HB.out.cell (World.block_lt_of_cell? w _ hx872_0)).trans hx872_0
                              replace p872 := eq_true p872
                              replace q872 := eq_true q872
                              have p874 : 0 ≤ (x6_1 : Int) := of_decide_eq_true (by first | (with_reducible assumption) | assumption)
                              have q874 : x6_1 < (l1.length : Int) := of_decide_eq_true (by first | (with_reducible assumption) | assumption)
                              obtain ⟨ad874, e874, hx874_0⟩ := Kd.at_int HR1.out x6_1 p874 q874
                              obtain rfl : ad872 = ad874 := (by injection e874)
                              replace hx874_0 := (HB.out.cell (World.block_lt_of_cell? w _ hx874_0)).trans hx874_0
                              replace p874 := eq_true p874
                              replace q874 := eq_true q874
                              have p875 : 0 ≤ ((ji18) : Int) := of_decide_eq_true (by first | (with_reducible assumption) | assumption)
                              have q875 : (ji18) < (l1.length : Int) := of_decide_eq_true (by first | (with_reducible assumption) | assumption)
                              obtain ⟨ad875, e875, hx875_0⟩ := Kd.at_int HR1.out (ji18) p875 q875
                              obtain rfl : ad872 = ad875 := (by injection e875)
                              replace hx875_0 := (HB.out.cell (World.block_lt_of_cell? w _ hx875_0)).trans hx875_0
                              replace p875 := eq_true p875
                              replace q875 := eq_true q875
                              refine qb_region (by kernel_rfl) (by kernel_rfl) ?_
                              repeat ((first | (apply qb_skip; (focus rfl)) | (refine qb_callN 26 rfl ?_; apply qb_call 26 rfl Try.func59 (by kernel_rfl) rfl rfl; (focus rfl); (focus (exact fun wq9 hb9 => qb_d hb9 (spec_l1In.calls (rd l1 x6_1) 0 (wrap64 (a0_0 - 1)) true _ A15.out))); (focus (rfl))) | (apply qb_val; (focus rfl); (focus (intro wq9 _; go_simp; with_reducible rfl))) | (apply qb_val; (focus rfl); (focus (intro wq9 hb9_; have hb9 : Below wr.heap.size wr wq9 := hb9_; have BK867 := Aside0.mk (blk_below BK867.out hb9); have hc9_867_0 : wq9.cell? ⟨gb867, 0, none⟩ = some (.int .i64 a0_0) := (blk_cell BK867.out 0).trans rfl; have hc9_867_1 : wq9.cell? ⟨gb867, 1, none⟩ = some (.slice A0_1 l0_1.length c0_1) := (blk_cell BK867.out 1).trans rfl; have hc9_867_2 : wq9.cell? ⟨gb867, 2, none⟩ = some (.slice A0_2 l0_2.length c0_2) := (blk_cell BK867.out 2).trans rfl; have hc9_867_3 : wq9.cell? ⟨gb867, 3, none⟩ = some (.slice A0_3 l0_3.length c0_3) := (blk_cell BK867.out 3).trans rfl; have hx872_0 := (hb9.cell (World.block_lt_of_cell? _ _ hx872_0)).trans hx872_0; have hx874_0 := (hb9.cell (World.block_lt_of_cell? _ _ hx874_0)).trans hx874_0; have hx875_0 := (hb9.cell (World.block_lt_of_cell? _ _ hx875_0)).trans hx875_0; go_simp; with_reducible rfl)))); (focus (simp only [Act.put, List.setIfInBounds_toArray, List.set_cons_zero, List.set_cons_succ, i64_w, i32_w]; rfl)))
                              refine qb_nil ?_
                              intro w26 hb
                              have n0_ := Aside0.mk (Kd.R_below HO_5.out hb)
                              have n1_ := Aside0.mk (blk_below BK867.out hb)
                              have n2_ := Aside0.mk (below_step HB.out hb)
                              clear HO_5
                              clear BK867
                              clear HB
                              have HO_5 := n0_
                              have BK867 := n1_
                              have HB := n2_
                              clear n0_ n1_ n2_
                              clear hb
                              (try clear HQ)
                              have p876 : 0 ≤ (x6_1 : Int) := of_decide_eq_true (by first | (with_reducible assumption) | assumption)
                              have q876 : x6_1 < (l1.length : Int) := of_decide_eq_true (by first | (with_reducible assumption) | assumption)
                              obtain ⟨ad876, e876, hx876_0⟩ := Kd.at_int HR1.out x6_1 p876 q876
                              obtain rfl : ad872 = ad876 := (by injection e876)
                              replace hx876_0 := (HB.out.cell (World.block_lt_of_cell? w _ hx876_0)).trans hx876_0
                              replace p876 := eq_true p876
                              replace q876 := eq_true q876
                              have p25 : 0 ≤ ((rd l1 x6_1) : Int) := of_decide_eq_true (by first | (with_reducible assumption) | assumption)
                              have q25 : ((rd l1 x6_1) : Int) < ((x5_1.length : Int) : Int) := of_decide_eq_true (by first | (with_reducible assumption) | assumption)
                              obtain ⟨go25, co25, eo25, gb25, gl25, cl25, HG25⟩ := Kd.R_form HO_5.out (by omega)
                              (first | cases eo25 | (injection eo25 with ea_ en_ ec_; (first | subst ea_ | (injection ea_ with ea_; subst ea_)); subst ec_; clear en_))
                              have GB25 := Aside0.mk gb25
                              have GG25 := Aside0.mk HG25
                              clear gb25 gl25 HG25
                              obtain ⟨hx25_0, hf25_0⟩ := Kd.R_celln false HO_5.out ((rd l1 x6_1) : Int) p25 q25
                              replace p25 := eq_true p25
                              replace q25 := eq_true q25
                              have HP27 := Kd.R_putg HO_5.out ((rd l1 x6_1) : Int) true
                              try go_wp2_with (first | ((with_reducible refine gate_store (t := 4) (p := 49) rfl ?_); refine store_event (t := 4) (p := 49) (v := ?vo_w28) (w1 := (w26.setCell ⟨go25, ((rd l1 x6_1) : Int).toNat, none⟩ (.bool true))) ?hg ?ho ?hn ?hr ?_; (case ho => rfl); (case hg => rfl); (case hn => rfl); (case hr => first | (go_simp; done) | (go_simp; rfl)); intro w28 hw; have hg : w26.grownBy w28 (some go25) := (by rw [hw]; exact HP27.2); have hp_ : Kd.R Kd.bool 4 w28 w.heap.size (fun _ => True) (.slice (some ⟨go25, 0, none⟩) x5_1.length co25) y877 := (by rw [hw, Ny877.out]; exact HP27.1); clear HP27; have n0_ := Aside0.mk (hp_); have n1_ := Aside0.mk (blk_grown (g := gb867) (o := .cells #[.int .i64 a0_0, .slice A0_1 l0_1.length c0_1, .slice A0_2 l0_2.length c0_2, .slice A0_3 l0_3.length c0_3] 28 (0, 0)) (by (with_reducible repeat (first | refine blk_drewN ?_ _ | refine blk_drew ?_ | refine blk_alloc ?_ _)); exact BK867.out) hg (Kd.R_ne HO_5.out BK867.out (by decide))); have n2_ := Aside0.mk ((by rw [hw]; exact below_set (HB.out) GB25.out : Below w.heap.size w w28)); clear HO_5; clear BK867; clear HB; have HO_5 := n0_; have BK867 := n1_; have HB := n2_; clear n0_ n1_ n2_; clear hg hw hp_))
                              go_roundg k1
                              case measure => have := HK1.out; omega
                              case rel => exact ⟨(y877), (wrap64 (x6_1 + 1)), (by first | rfl | (simp; done) | (simp [*]; done)), H', ⟨by have := HK1.out; omega⟩, ⟨by (with_reducible repeat (first | apply Kd.R_alloc | apply Kd.R_drewN | apply Kd.R_drew)); exact HO_5.out⟩, ⟨by (with_reducible repeat (first | refine blk_drewN ?_ _ | refine blk_drew ?_ | refine blk_alloc ?_ _)); exact BK867.out⟩, ⟨by repeat (first | (with_reducible first | exact HB.out | apply below_alloc | apply pw_below_drewN | apply below_drew1 | refine below_set ?_ GE867.out) | exact HB.out)⟩⟩
                            · rw [if_neg c24] at H
                              exact absurd H (by simp)
                          · rw [if_neg c23] at H
                            exact absurd H (by simp)
                      · rw [if_neg c20] at H
                        exact absurd H (by simp)
                    · rw [if_neg c19] at H
                      exact absurd H (by simp)
                  · rw [if_neg c17] at H
                    have c17b0 : decide (0 < x6_1) = false := decide_eq_false c17
                    clear c17
                    by_cases c29 : 0 ≤ (rd l1 x6_1)
                    · rw [if_pos c29] at H
                      have c29b0 : decide (0 ≤ (rd l1 x6_1)) = true := decide_eq_true c29
                      clear c29
                      by_cases c30 : (rd l1 x6_1) < (x5_1.length : Int)
                      · rw [if_pos c30] at H
                        have c30b0 : decide ((rd l1 x6_1) < (x5_1.length : Int)) = true := decide_eq_true c30
                        clear c30
                        obtain ⟨y879, hy879⟩ : ∃ y_ : List Bool, y_ = (x5_1.set ((rd l1 x6_1) : Int).toNat true) := ⟨_, rfl⟩
                        replace H : (spec_IsView.l0 k1 l1 y879 (wrap64 (x6_1 + 1)) a0_0 l0_1 l0_2 l0_3) = some r := by first | (rw [hy879]; with_reducible exact H) | (have H2_ := (Option.bind_some _ _).symm.trans H; rw [hy879]; with_reducible exact H2_) | (have H2_ := (Option.bind_some _ _).symm.trans H; with_reducible exact H2_) | with_reducible exact H | (rw [hy879]; exact H) | exact H
                        have Ny879 := Aside0.mk hy879
                        clear hy879
                        have H' := Aside0.mk H
                        clear H
                        try go_wp2
                        have p872 : 0 ≤ (x6_1 : Int) := of_decide_eq_true (by first | (with_reducible assumption) | assumption)
                        have q872 : x6_1 < (l1.length : Int) := of_decide_eq_true (by first | (with_reducible assumption) | assumption)
                        obtain ⟨ad872, e872, hx872_0⟩ := Kd.at_int HR1.out x6_1 p872 q872
                        cases e872
                        replace hx872_0 := (HB.out.cell (World.block_lt_of_cell? w _ hx872_0)).trans hx872_0
                        replace p872 := eq_true p872
                        replace q872 := eq_true q872
                        refine qb_region (by kernel_rfl) (by kernel_rfl) ?_
                        repeat ((first | (apply qb_skip; (focus rfl)) | (refine qb_callN 26 rfl ?_; apply qb_call 26 rfl Try.func59 (by kernel_rfl) rfl rfl; (focus rfl); (focus (exact fun wq9 hb9 => qb_d hb9 (spec_l1In.calls (rd l1 x6_1) 0 (wrap64 (a0_0 - 1)) true _ A15.out))); (focus (rfl))) | (apply qb_val; (focus rfl); (focus (intro wq9 _; go_simp; with_reducible rfl))) | (apply qb_val; (focus rfl); (focus (intro wq9 hb9_; have hb9 : Below wr.heap.size wr wq9 := hb9_; have BK867 := Aside0.mk (blk_below BK867.out hb9); have hc9_867_0 : wq9.cell? ⟨gb867, 0, none⟩ = some (.int .i64 a0_0) := (blk_cell BK867.out 0).trans rfl; have hc9_867_1 : wq9.cell? ⟨gb867, 1, none⟩ = some (.slice A0_1 l0_1.length c0_1) := (blk_cell BK867.out 1).trans rfl; have hc9_867_2 : wq9.cell? ⟨gb867, 2, none⟩ = some (.slice A0_2 l0_2.length c0_2) := (blk_cell BK867.out 2).trans rfl; have hc9_867_3 : wq9.cell? ⟨gb867, 3, none⟩ = some (.slice A0_3 l0_3.length c0_3) := (blk_cell BK867.out 3).trans rfl; have hx872_0 := (hb9.cell (World.block_lt_of_cell? _ _ hx872_0)).trans hx872_0; go_simp; with_reducible rfl)))); (focus (simp only [Act.put, List.setIfInBounds_toArray, List.set_cons_zero, List.set_cons_succ, i64_w, i32_w]; rfl)))
                        refine qb_nil ?_
                        intro w32 hb
                        have n0_ := Aside0.mk (Kd.R_below HO_5.out hb)
                        have n1_ := Aside0.mk (blk_below BK867.out hb)
                        have n2_ := Aside0.mk (below_step HB.out hb)
                        clear HO_5
                        clear BK867
                        clear HB
                        have HO_5 := n0_
                        have BK867 := n1_
                        have HB := n2_
                        clear n0_ n1_ n2_
                        clear hb
                        (try clear HQ)
                        have p878 : 0 ≤ (x6_1 : Int) := of_decide_eq_true (by first | (with_reducible assumption) | assumption)
                        have q878 : x6_1 < (l1.length : Int) := of_decide_eq_true (by first | (with_reducible assumption) | assumption)
                        obtain ⟨ad878, e878, hx878_0⟩ := Kd.at_int HR1.out x6_1 p878 q878
                        obtain rfl : ad872 = ad878 := (by injection e878)
                        replace hx878_0 := (HB.out.cell (World.block_lt_of_cell? w _ hx878_0)).trans hx878_0
                        replace p878 := eq_true p878
                        replace q878 := eq_true q878
                        have p31 : 0 ≤ ((rd l1 x6_1) : Int) := of_decide_eq_true (by first | (with_reducible assumption) | assumption)
                        have q31 : ((rd l1 x6_1) : Int) < ((x5_1.length : Int) : Int) := of_decide_eq_true (by first | (with_reducible assumption) | assumption)
                        obtain ⟨go31, co31, eo31, gb31, gl31, cl31, HG31⟩ := Kd.R_form HO_5.out (by omega)
                        (first | cases eo31 | (injection eo31 with ea_ en_ ec_; (first | subst ea_ | (injection ea_ with ea_; subst ea_)); subst ec_; clear en_))
                        have GB31 := Aside0.mk gb31
                        have GG31 := Aside0.mk HG31
                        clear gb31 gl31 HG31
                        obtain ⟨hx31_0, hf31_0⟩ := Kd.R_celln false HO_5.out ((rd l1 x6_1) : Int) p31 q31
                        replace p31 := eq_true p31
                        replace q31 := eq_true q31
                        have HP33 := Kd.R_putg HO_5.out ((rd l1 x6_1) : Int) true
                        try go_wp2_with (first | ((with_reducible refine gate_store (t := 4) (p := 49) rfl ?_); refine store_event (t := 4) (p := 49) (v := ?vo_w34) (w1 := (w32.setCell ⟨go31, ((rd l1 x6_1) : Int).toNat, none⟩ (.bool true))) ?hg ?ho ?hn ?hr ?_; (case ho => rfl); (case hg => rfl); (case hn => rfl); (case hr => first | (go_simp; done) | (go_simp; rfl)); intro w34 hw; have hg : w32.grownBy w34 (some go31) := (by rw [hw]; exact HP33.2); have hp_ : Kd.R Kd.bool 4 w34 w.heap.size (fun _ => True) (.slice (some ⟨go31, 0, none⟩) x5_1.length co31) y879 := (by rw [hw, Ny879.out]; exact HP33.1); clear HP33; have n0_ := Aside0.mk (hp_); have n1_ := Aside0.mk (blk_grown (g := gb867) (o := .cells #[.int .i64 a0_0, .slice A0_1 l0_1.length c0_1, .slice A0_2 l0_2.length c0_2, .slice A0_3 l0_3.length c0_3] 28 (0, 0)) (by (with_reducible repeat (first | refine blk_drewN ?_ _ | refine blk_drew ?_ | refine blk_alloc ?_ _)); exact BK867.out) hg (Kd.R_ne HO_5.out BK867.out (by decide))); have n2_ := Aside0.mk ((by rw [hw]; exact below_set (HB.out) GB31.out : Below w.heap.size w w34)); clear HO_5; clear BK867; clear HB; have HO_5 := n0_; have BK867 := n1_; have HB := n2_; clear n0_ n1_ n2_; clear hg hw hp_))
                        go_roundg k1
                        case measure => have := HK1.out; omega
                        case rel => exact ⟨(y879), (wrap64 (x6_1 + 1)), (by first | rfl | (simp; done) | (simp [*]; done)), H', ⟨by have := HK1.out; omega⟩, ⟨by (with_reducible repeat (first | apply Kd.R_alloc | apply Kd.R_drewN | apply Kd.R_drew)); exact HO_5.out⟩, ⟨by (with_reducible repeat (first | refine blk_drewN ?_ _ | refine blk_drew ?_ | refine blk_alloc ?_ _)); exact BK867.out⟩, ⟨by repeat (first | (with_reducible first | exact HB.out | apply below_alloc | apply pw_below_drewN | apply below_drew1 | refine below_set ?_ GE867.out) | exact HB.out)⟩⟩
                      · rw [if_neg c30] at H
                        exact absurd H (by simp)
                    · rw [if_neg c29] at H
                      exact absurd H (by simp)
                · replace c16 := Bool.eq_false_iff.mpr c16
                  subst c16
                  have H1 : (some false) = some r := by rw [if_neg (show ¬ (false = true) by decide)] at H; exact H
                  clear H
                  have H := H1
                  clear H1
                  obtain rfl := Option.some.inj H
                  try go_wp2
                  have p872 : 0 ≤ (x6_1 : Int) := of_decide_eq_true (by first | (with_reducible assumption) | assumption)
                  have q872 : x6_1 < (l1.length : Int) := of_decide_eq_true (by first | (with_reducible assumption) | assumption)
                  obtain ⟨ad872, e872, hx872_0⟩ := Kd.at_int HR1.out x6_1 p872 q872
                  cases e872
                  replace hx872_0 := (HB.out.cell (World.block_lt_of_cell? w _ hx872_0)).trans hx872_0
                  replace p872 := eq_true p872
                  replace q872 := eq_true q872
                  refine qb_region (by kernel_rfl) (by kernel_rfl) ?_
                  repeat ((first | (apply qb_skip; (focus rfl)) | (refine qb_callN 26 rfl ?_; apply qb_call 26 rfl Try.func59 (by kernel_rfl) rfl rfl; (focus rfl); (focus (exact fun wq9 hb9 => qb_d hb9 (spec_l1In.calls (rd l1 x6_1) 0 (wrap64 (a0_0 - 1)) false _ A15.out))); (focus (rfl))) | (apply qb_val; (focus rfl); (focus (intro wq9 _; go_simp; with_reducible rfl))) | (apply qb_val; (focus rfl); (focus (intro wq9 hb9_; have hb9 : Below wr.heap.size wr wq9 := hb9_; have BK867 := Aside0.mk (blk_below BK867.out hb9); have hc9_867_0 : wq9.cell? ⟨gb867, 0, none⟩ = some (.int .i64 a0_0) := (blk_cell BK867.out 0).trans rfl; have hc9_867_1 : wq9.cell? ⟨gb867, 1, none⟩ = some (.slice A0_1 l0_1.length c0_1) := (blk_cell BK867.out 1).trans rfl; have hc9_867_2 : wq9.cell? ⟨gb867, 2, none⟩ = some (.slice A0_2 l0_2.length c0_2) := (blk_cell BK867.out 2).trans rfl; have hc9_867_3 : wq9.cell? ⟨gb867, 3, none⟩ = some (.slice A0_3 l0_3.length c0_3) := (blk_cell BK867.out 3).trans rfl; have hx872_0 := (hb9.cell (World.block_lt_of_cell? _ _ hx872_0)).trans hx872_0; go_simp; with_reducible rfl)))); (focus (simp only [Act.put, List.setIfInBounds_toArray, List.set_cons_zero, List.set_cons_succ, i64_w, i32_w]; rfl)))
                  refine qb_nil ?_
                  intro w35 hb
                  have n0_ := Aside0.mk (Kd.R_below HO_5.out hb)
                  have n1_ := Aside0.mk (blk_below BK867.out hb)
                  have n2_ := Aside0.mk (below_step HB.out hb)
                  clear HO_5
                  clear BK867
                  clear HB
                  have HO_5 := n0_
                  have BK867 := n1_
                  have HB := n2_
                  clear n0_ n1_ n2_
                  clear hb
                  (try clear HQ)
                  try go_wp2
                  go_ret
                  exact ⟨by first | rfl | (simp [errW_none, errW_some] <;> rfl) | (simp [*, errW_none, errW_some] <;> rfl), by repeat (first | (with_reducible first | exact HB.out | apply below_alloc | apply pw_below_drewN | apply below_drew1 | refine below_set ?_ GE867.out) | exact HB.out)⟩
              · rw [if_neg c14] at H
                exact absurd H (by simp)
            · rw [if_neg c13] at H
              have c13b0 : decide (x6_1 < (l1.length : Int)) = false := decide_eq_false c13
              clear c13
              replace H := Option.bind_eq_some_iff.mp H
              obtain ⟨t880, A360, H⟩ := H
              replace H : (some t880) = some r := H
              have A36 := Aside0.mk A360
              clear A360
              obtain rfl := Option.some.inj H
              have hcz37_0 : wr.cell? ⟨gb867, 0, none⟩ = some (.int .i64 a0_0) := (blk_cell BK867.out 0).trans rfl
              have hcz37_1 : wr.cell? ⟨gb867, 1, none⟩ = some (.slice A0_1 l0_1.length c0_1) := (blk_cell BK867.out 1).trans rfl
              have hcz37_2 : wr.cell? ⟨gb867, 2, none⟩ = some (.slice A0_2 l0_2.length c0_2) := (blk_cell BK867.out 2).trans rfl
              have hcz37_3 : wr.cell? ⟨gb867, 3, none⟩ = some (.slice A0_3 l0_3.length c0_3) := (blk_cell BK867.out 3).trans rfl
              have hfz37_0 := blk_frozen BK867.out 0
              have hfz37_1 := blk_frozen BK867.out 1
              have hfz37_2 := blk_frozen BK867.out 2
              have hfz37_3 := blk_frozen BK867.out 3
              obtain ⟨Ao38, co38, eo38⟩ := Kd.R_slice HO_5.out
              subst eo38
              go_wp2_with (first | ((with_reducible refine gate_callee (f := 69) rfl ?_); refine goesL_ (some 52) rfl rfl Try.func69 (by kernel_rfl) rfl #[.agg #[.int .i64 a0_0, .slice A0_1 l0_1.length c0_1, .slice A0_2 l0_2.length c0_2, .slice A0_3 l0_3.length c0_3], .slice Ao38 x5_1.length co38] rfl (by (try simp only [List.map_toArray, List.map_cons, List.map_nil]); first | done | rfl | (simp only [List.length_drop, List.length_take]; rfl)) ?_; (with_reducible refine (spec_l1View.calls k1 a0_0 _ _ l0_1 _ _ l0_2 _ _ l0_3 _ _ x5_1 t880 _ ?side1 ?side2 ?side3 ?side4 ?side5 ?side6 ?side7 ?side8 A36.out).mono ?_); (case side1 => repeat (first | exact (Kd.C_below HR0_1.out HB.out) | (with_reducible refine Kd.C_alloc ?_ _) | (with_reducible refine Kd.C_drewN ?_ _) | (with_reducible refine Kd.C_drew ?_))); (case side2 => exact HC0_1.out); (case side3 => repeat (first | exact (Kd.C_below HR0_2.out HB.out) | (with_reducible refine Kd.C_alloc ?_ _) | (with_reducible refine Kd.C_drewN ?_ _) | (with_reducible refine Kd.C_drew ?_))); (case side4 => exact HC0_2.out); (case side5 => repeat (first | exact (Kd.C_below HR0_3.out HB.out) | (with_reducible refine Kd.C_alloc ?_ _) | (with_reducible refine Kd.C_drewN ?_ _) | (with_reducible refine Kd.C_drew ?_))); (case side6 => exact HC0_3.out); (case side7 => repeat (first | exact (Kd.R_reads' HO_5.out).2.2 | (with_reducible refine Kd.C_alloc ?_ _) | (with_reducible refine Kd.C_drewN ?_ _) | (with_reducible refine Kd.C_drew ?_))); (case side8 => exact (Kd.R_reads' HO_5.out).2.1); rintro e w39 ⟨rfl, hb⟩; refine ⟨_, rfl, ?_⟩; have n0_ := Aside0.mk (Kd.R_below (by (with_reducible repeat (first | apply Kd.R_alloc | apply Kd.R_drewN | apply Kd.R_drew)); exact HO_5.out) hb); have n1_ := Aside0.mk (blk_below (g := gb867) (o := .cells #[.int .i64 a0_0, .slice A0_1 l0_1.length c0_1, .slice A0_2 l0_2.length c0_2, .slice A0_3 l0_3.length c0_3] 28 (0, 0)) (by (with_reducible repeat (first | refine blk_drewN ?_ _ | refine blk_drew ?_ | refine blk_alloc ?_ _)); exact BK867.out) hb); have n2_ := Aside0.mk (below_step (by repeat (first | (with_reducible first | exact HB.out | apply below_alloc | apply pw_below_drewN | apply below_drew1 | refine below_set ?_ GE867.out) | exact HB.out)) hb); clear HO_5; clear BK867; clear HB; have HO_5 := n0_; have BK867 := n1_; have HB := n2_; clear n0_ n1_ n2_; (try clear hb); (try clear hb2); (try clear hk); (try clear hi)))
              go_ret
              exact ⟨by first | rfl | (simp [errW_none, errW_some] <;> rfl) | (simp [*, errW_none, errW_some] <;> rfl), by repeat (first | (with_reducible first | exact HB.out | apply below_alloc | apply pw_below_drewN | apply below_drew1 | refine below_set ?_ GE867.out) | exact HB.out)⟩
      · rw [if_neg c6] at H
        exact absurd H (by simp)
    · rw [if_neg c5] at H
      exact absurd H (by simp)
  · replace c4 := Bool.eq_false_iff.mpr c4
    subst c4
    have H1 : (some false) = some r := by rw [if_neg (show ¬ (false = true) by decide)] at H; exact H
    clear H
    have H := H1
    clear H1
    obtain rfl := Option.some.inj H
    go_enter Try.func42, Try.ntmps42
    go_wp2_with (first | ((with_reducible refine gate_dst (N := 2) rfl ?_); refine box_event ?hg (N := 2) ?hd (cs := #[.int .i64 a0_0, .slice A0_1 l0_1.length c0_1, .slice A0_2 l0_2.length c0_2, .slice A0_3 l0_3.length c0_3]) (t := 28) ?hr ?_; (case hd => rfl); (case hg => rfl); (case hr => first | (go_simp; done) | (go_simp; rfl)); intro gb867 hg w40 hbox hb; have n0_ := Aside0.mk (below_step (by repeat (first | (with_reducible first | exact HB.out | apply below_alloc | apply pw_below_drewN | apply below_drew1) | exact HB.out)) hb); have n1_ := Aside0.mk (hbox); have n2_ := Aside0.mk ((by rw [hg]; exact (below_size (by repeat (first | (with_reducible first | exact HB.out | apply below_alloc | apply pw_below_drewN | apply below_drew1) | exact HB.out))) : w.heap.size ≤ gb867)); have n3_ := Aside0.mk ((by rw [hg]; exact (below_size (by repeat (first | (with_reducible first | exact HB.out | apply below_alloc | apply pw_below_drewN | apply below_drew1) | exact HB.out))) : w.heap.size ≤ gb867)); clear HB; have HB := n0_; have BK867 := n1_; have GW867 := n2_; have GE867 := n3_; clear n0_ n1_ n2_ n3_; clear hb hbox hg; have hcz41_0 : w40.cell? ⟨gb867, 0, none⟩ = some (.int .i64 a0_0) := (blk_cell BK867.out 0).trans rfl; have hcz41_1 : w40.cell? ⟨gb867, 1, none⟩ = some (.slice A0_1 l0_1.length c0_1) := (blk_cell BK867.out 1).trans rfl; have hcz41_2 : w40.cell? ⟨gb867, 2, none⟩ = some (.slice A0_2 l0_2.length c0_2) := (blk_cell BK867.out 2).trans rfl; have hcz41_3 : w40.cell? ⟨gb867, 3, none⟩ = some (.slice A0_3 l0_3.length c0_3) := (blk_cell BK867.out 3).trans rfl; have hfz41_0 := blk_frozen BK867.out 0; have hfz41_1 := blk_frozen BK867.out 1; have hfz41_2 := blk_frozen BK867.out 2; have hfz41_3 := blk_frozen BK867.out 3) | ((with_reducible refine gate_callee (f := 16) rfl ?_); refine goesL_ (some 8) rfl rfl Try.func16 (by kernel_rfl) rfl #[.agg #[.int .i64 a0_0, .slice A0_1 l0_1.length c0_1, .slice A0_2 l0_2.length c0_2, .slice A0_3 l0_3.length c0_3]] rfl (by (try simp only [List.map_toArray, List.map_cons, List.map_nil]); first | done | rfl | (simp only [List.length_drop, List.length_take]; rfl)) ?_; (with_reducible refine (spec_IsSystem.calls k a0_0 _ _ l0_1 _ _ l0_2 _ _ l0_3 false _ ?side1 ?side2 ?side3 ?side4 ?side5 ?side6 A3.out).mono ?_); (case side1 => repeat (first | exact (Kd.C_below HR0_1.out HB.out) | (with_reducible refine Kd.C_alloc ?_ _) | (with_reducible refine Kd.C_drewN ?_ _) | (with_reducible refine Kd.C_drew ?_))); (case side2 => exact HC0_1.out); (case side3 => repeat (first | exact (Kd.C_below HR0_2.out HB.out) | (with_reducible refine Kd.C_alloc ?_ _) | (with_reducible refine Kd.C_drewN ?_ _) | (with_reducible refine Kd.C_drew ?_))); (case side4 => exact HC0_2.out); (case side5 => repeat (first | exact (Kd.C_below HR0_3.out HB.out) | (with_reducible refine Kd.C_alloc ?_ _) | (with_reducible refine Kd.C_drewN ?_ _) | (with_reducible refine Kd.C_drew ?_))); (case side6 => exact HC0_3.out); rintro e w42 ⟨rfl, hb⟩; refine ⟨_, rfl, ?_⟩; have n0_ := Aside0.mk (blk_below (g := gb867) (o := .cells #[.int .i64 a0_0, .slice A0_1 l0_1.length c0_1, .slice A0_2 l0_2.length c0_2, .slice A0_3 l0_3.length c0_3] 28 (0, 0)) (by (with_reducible repeat (first | refine blk_drewN ?_ _ | refine blk_drew ?_ | refine blk_alloc ?_ _)); exact BK867.out) hb); have n1_ := Aside0.mk (below_step (by repeat (first | (with_reducible first | exact HB.out | apply below_alloc | apply pw_below_drewN | apply below_drew1 | refine below_set ?_ GE867.out) | exact HB.out)) hb); clear BK867; clear HB; have BK867 := n0_; have HB := n1_; clear n0_ n1_; (try clear hb); (try clear hb2); (try clear hk); (try clear hi)))
    go_ret
    exact ⟨by first | rfl | (simp [errW_none, errW_some] <;> rfl) | (simp [*, errW_none, errW_some] <;> rfl), by repeat (first | (with_reducible first | exact HB.out | apply below_alloc | apply pw_below_drewN | apply below_drew1 | refine below_set ?_ GE867.out) | exact HB.out)⟩

end Go.Proofs.Ythdbijjkcoafiaa.P
