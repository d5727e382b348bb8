-- Printed by this session's own program (wip/tools/mkprint.py) out of the translation. Not trusted: Lean checks it.
import Derived.Test.YthdbijjkcoafiaaP0
import Derived.Test.YthdbijjkcoafiaaPf18
import Derived.Test.YthdbijjkcoafiaaPf52
import Derived.Test.YthdbijjkcoafiaaPf70
namespace Go.Proofs.Ythdbijjkcoafiaa.P
open Go.RowKit Go.Proofs.YthdbijjkcoafiaaW.PrintWords Go.Proofs.YthdbijjkcoafiaaW.PrintLast Go.Proofs.YthdbijjkcoafiaaW.PrintMore
attribute [local go_sem] max2_int min2_int max_two min_two max_three min_three max_four min_four   -- for this text's walks alone
set_option linter.unusedVariables false
set_option linter.unusedSimpArgs false

/-! ### impl_IsView: function 43 -/
def impl_IsView.l0 : Nat → List Int → List Bool → List Int → Int → Int → Int → List Int → List Int → List Bool → Option (Bool)
  | 0, _, _, _, _, _, _, _, _, _ => none
  | k + 1, x1, x5, x14, x15, x16, x900000, x900001, x900002, x900003 => if x16 < x15 then (if 0 ≤ x16 then (if x16 < (x14.length : Int) then ((impl_System_has.f x900000 x900001 x900002 x900003 (rd x14 x16)).bind fun t905 => (if t905 = true then (if x16 > 0 then (if 0 ≤ (wrap64 (x16 - 1)) then (if (wrap64 (x16 - 1)) < (x1.length : Int) then (if (rd x14 x16) ≤ (rd x1 (wrap64 (x16 - 1))) then (some false) else (if 0 ≤ (rd x14 x16) then (if (rd x14 x16) < (x5.length : Int) then (impl_IsView.l0 k x1 (x5.set ((rd x14 x16) : Int).toNat true) x14 x15 (wrap64 (x16 + 1)) x900000 x900001 x900002 x900003) else (none)) else (none))) else (none)) else (none)) else (if 0 ≤ (rd x14 x16) then (if (rd x14 x16) < (x5.length : Int) then (impl_IsView.l0 k x1 (x5.set ((rd x14 x16) : Int).toNat true) x14 x15 (wrap64 (x16 + 1)) x900000 x900001 x900002 x900003) else (none)) else (none))) else (some false))) else (none)) else (none)) else ((impl_isView.f k x900000 x900001 x900002 x900003 x5).bind fun t909 => (some t909))
def impl_IsView.f (k : Nat) (a0_0 : Int) (l0_1 : List Int) (l0_2 : List Int) (l0_3 : List Bool) (l1 : List Int) : Option (Bool) := (impl_IsSystem.f k a0_0 l0_1 l0_2 l0_3).bind fun t900 => (if t900 = true then (if 0 ≤ a0_0 then (if (a0_0 : Int).toNat ≤ 281474976710656 then (impl_IsView.l0 k l1 (List.replicate (a0_0 : Int).toNat false) l1 (l1.length : Int) 0 a0_0 l0_1 l0_2 l0_3) else (none)) else (none)) else (some false))
set_option maxHeartbeats 8000000 in
set_option maxRecDepth 100000 in
theorem impl_IsView.calls (k : Nat) (a0_0 : Int) (A0_1 : Option Addr) (c0_1 : Nat) (l0_1 : List Int) (A0_2 : Option Addr) (c0_2 : Nat) (l0_2 : List Int) (A0_3 : Option Addr) (c0_3 : Nat) (l0_3 : List Bool) (A1 : Option Addr) (c1 : Nat) (l1 : List Int) (r : Bool) (w : World) (hr0_1 : Kd.C (Kd.int .i64) w A0_1 l0_1.length l0_1) (hc0_1 : l0_1.length ≤ c0_1) (hr0_2 : Kd.C (Kd.int .i64) w A0_2 l0_2.length l0_2) (hc0_2 : l0_2.length ≤ c0_2) (hr0_3 : Kd.C Kd.bool w A0_3 l0_3.length l0_3) (hc0_3 : l0_3.length ≤ c0_3) (hr1 : Kd.C (Kd.int .i64) w A1 l1.length l1) (hc1 : l1.length ≤ c1) (h : impl_IsView.f k a0_0 l0_1 l0_2 l0_3 l1 = some r) :
    Calls Try.prog 43 #[.agg #[.int .i64 a0_0, .slice A0_1 l0_1.length c0_1, .slice A0_2 l0_2.length c0_2, .slice A0_3 l0_3.length c0_3], .slice A1 l1.length c1] w fun e w' => e = .returned (.bool r) ∧ Below w.heap.size w w' := by
  have hu28 := Try.underlying28
  have HR0_1 := Aside0.mk hr0_1
  have HC0_1 := Aside0.mk hc0_1
  clear hr0_1 hc0_1
  have HR0_2 := Aside0.mk hr0_2
  have HC0_2 := Aside0.mk hc0_2
  clear hr0_2 hc0_2
  have HR0_3 := Aside0.mk hr0_3
  have HC0_3 := Aside0.mk hc0_3
  clear hr0_3 hc0_3
  have HR1 := Aside0.mk hr1
  have HC1 := Aside0.mk hc1
  clear hr1 hc1
  have HB := Aside0.mk (Below.refl w.heap.size w)
  have H : ((impl_IsSystem.f k a0_0 l0_1 l0_2 l0_3).bind fun t900 => (if t900 = true then (if 0 ≤ a0_0 then (if (a0_0 : Int).toNat ≤ 281474976710656 then (impl_IsView.l0 k l1 (List.replicate (a0_0 : Int).toNat false) l1 (l1.length : Int) 0 a0_0 l0_1 l0_2 l0_3) else (none)) else (none)) else (some false))) = some r := h
  clear h
  replace H := Option.bind_eq_some_iff.mp H
  obtain ⟨t900, A30, H⟩ := H
  replace H : (if t900 = true then (if 0 ≤ a0_0 then (if (a0_0 : Int).toNat ≤ 281474976710656 then (impl_IsView.l0 k l1 (List.replicate (a0_0 : Int).toNat false) l1 (l1.length : Int) 0 a0_0 l0_1 l0_2 l0_3) else (none)) else (none)) else (some false)) = some r := H
  have A3 := Aside0.mk A30
  clear A30
  have HP4 := Aside0.mk H
  clear H
  go_enter Try.func43, Try.ntmps43
  go_upto_if 10 with (first | ((with_reducible refine gate_dst (N := 2) rfl ?_); refine box_event ?hg (N := 2) ?hd (cs := #[.int .i64 a0_0, .slice A0_1 l0_1.length c0_1, .slice A0_2 l0_2.length c0_2, .slice A0_3 l0_3.length c0_3]) (t := 28) ?hr ?_; (case hd => rfl); (case hg => rfl); (case hr => first | (go_simp; done) | (go_simp; rfl)); intro gb899 hg w5 hbox hb; have n0_ := Aside0.mk (below_step (by repeat (first | (with_reducible first | exact HB.out | apply below_alloc | apply pw_below_drewN | apply below_drew1) | exact HB.out)) hb); have n1_ := Aside0.mk (hbox); have n2_ := Aside0.mk ((by rw [hg]; exact (below_size (by repeat (first | (with_reducible first | exact HB.out | apply below_alloc | apply pw_below_drewN | apply below_drew1) | exact HB.out))) : w.heap.size ≤ gb899)); have n3_ := Aside0.mk ((by rw [hg]; exact (below_size (by repeat (first | (with_reducible first | exact HB.out | apply below_alloc | apply pw_below_drewN | apply below_drew1) | exact HB.out))) : w.heap.size ≤ gb899)); clear HB; have HB := n0_; have BK899 := n1_; have GW899 := n2_; have GE899 := n3_; clear n0_ n1_ n2_ n3_; clear hb hbox hg; have hcz6_0 : w5.cell? ⟨gb899, 0, none⟩ = some (.int .i64 a0_0) := (blk_cell BK899.out 0).trans rfl; have hcz6_1 : w5.cell? ⟨gb899, 1, none⟩ = some (.slice A0_1 l0_1.length c0_1) := (blk_cell BK899.out 1).trans rfl; have hcz6_2 : w5.cell? ⟨gb899, 2, none⟩ = some (.slice A0_2 l0_2.length c0_2) := (blk_cell BK899.out 2).trans rfl; have hcz6_3 : w5.cell? ⟨gb899, 3, none⟩ = some (.slice A0_3 l0_3.length c0_3) := (blk_cell BK899.out 3).trans rfl; have hfz6_0 := blk_frozen BK899.out 0; have hfz6_1 := blk_frozen BK899.out 1; have hfz6_2 := blk_frozen BK899.out 2; have hfz6_3 := blk_frozen BK899.out 3) | ((with_reducible refine gate_callee (f := 18) rfl ?_); refine goesL_ (some 9) rfl rfl Try.func18 (by kernel_rfl) rfl #[.agg #[.int .i64 a0_0, .slice A0_1 l0_1.length c0_1, .slice A0_2 l0_2.length c0_2, .slice A0_3 l0_3.length c0_3]] rfl (by (try simp only [List.map_toArray, List.map_cons, List.map_nil]); first | done | rfl | (simp only [List.length_drop, List.length_take]; rfl)) ?_; (with_reducible refine (impl_IsSystem.calls k a0_0 _ _ l0_1 _ _ l0_2 _ _ l0_3 t900 _ ?side1 ?side2 ?side3 ?side4 ?side5 ?side6 A3.out).mono ?_); (case side1 => repeat (first | exact (Kd.C_below HR0_1.out HB.out) | (with_reducible refine Kd.C_alloc ?_ _) | (with_reducible refine Kd.C_drewN ?_ _) | (with_reducible refine Kd.C_drew ?_))); (case side2 => exact HC0_1.out); (case side3 => repeat (first | exact (Kd.C_below HR0_2.out HB.out) | (with_reducible refine Kd.C_alloc ?_ _) | (with_reducible refine Kd.C_drewN ?_ _) | (with_reducible refine Kd.C_drew ?_))); (case side4 => exact HC0_2.out); (case side5 => repeat (first | exact (Kd.C_below HR0_3.out HB.out) | (with_reducible refine Kd.C_alloc ?_ _) | (with_reducible refine Kd.C_drewN ?_ _) | (with_reducible refine Kd.C_drew ?_))); (case side6 => exact HC0_3.out); rintro e w7 ⟨rfl, hb⟩; refine ⟨_, rfl, ?_⟩; have n0_ := Aside0.mk (blk_below (g := gb899) (o := .cells #[.int .i64 a0_0, .slice A0_1 l0_1.length c0_1, .slice A0_2 l0_2.length c0_2, .slice A0_3 l0_3.length c0_3] 28 (0, 0)) (by (with_reducible repeat (first | refine blk_drewN ?_ _ | refine blk_drew ?_ | refine blk_alloc ?_ _)); exact BK899.out) hb); have n1_ := Aside0.mk (below_step (by repeat (first | (with_reducible first | exact HB.out | apply below_alloc | apply pw_below_drewN | apply below_drew1 | refine below_set ?_ GE899.out) | exact HB.out)) hb); clear BK899; clear HB; have BK899 := n0_; have HB := n1_; clear n0_ n1_; (try clear hb); (try clear hb2); (try clear hk); (try clear hi)))
  have H := HP4.out
  clear HP4
  by_cases c8 : t900 = true
  · subst c8
    have H1 : (if 0 ≤ a0_0 then (if (a0_0 : Int).toNat ≤ 281474976710656 then (impl_IsView.l0 k l1 (List.replicate (a0_0 : Int).toNat false) l1 (l1.length : Int) 0 a0_0 l0_1 l0_2 l0_3) else (none)) else (none)) = some r := by rw [if_pos rfl] at H; exact H
    clear H
    have H := H1
    clear H1
    by_cases c9 : 0 ≤ a0_0
    · rw [if_pos c9] at H
      have c9b0 := eq_true c9
      have c9b1 : decide (0 ≤ a0_0) = true := decide_eq_true c9
      clear c9
      by_cases c10 : (a0_0 : Int).toNat ≤ 281474976710656
      · rw [if_pos c10] at H
        have c10b0 := eq_true c10
        have c10b1 : decide ((a0_0 : Int).toNat ≤ 281474976710656) = true := decide_eq_true c10
        clear c10
        obtain ⟨y901, hy901⟩ : ∃ y_ : List Bool, y_ = (List.replicate (a0_0 : Int).toNat false) := ⟨_, rfl⟩
        replace H : (impl_IsView.l0 k l1 y901 l1 (l1.length : Int) 0 a0_0 l0_1 l0_2 l0_3) = some r := by first | (rw [hy901]; with_reducible exact H) | (have H2_ := (Option.bind_some _ _).symm.trans H; rw [hy901]; with_reducible exact H2_) | (have H2_ := (Option.bind_some _ _).symm.trans H; with_reducible exact H2_) | with_reducible exact H | (rw [hy901]; exact H) | exact H
        have Ny901 := Aside0.mk hy901
        clear hy901
        have H' := Aside0.mk H
        clear H
        have hcz11_0 : w7.cell? ⟨gb899, 0, none⟩ = some (.int .i64 a0_0) := (blk_cell BK899.out 0).trans rfl
        have hcz11_1 : w7.cell? ⟨gb899, 1, none⟩ = some (.slice A0_1 l0_1.length c0_1) := (blk_cell BK899.out 1).trans rfl
        have hcz11_2 : w7.cell? ⟨gb899, 2, none⟩ = some (.slice A0_2 l0_2.length c0_2) := (blk_cell BK899.out 2).trans rfl
        have hcz11_3 : w7.cell? ⟨gb899, 3, none⟩ = some (.slice A0_3 l0_3.length c0_3) := (blk_cell BK899.out 3).trans rfl
        have hfz11_0 := blk_frozen BK899.out 0
        have hfz11_1 := blk_frozen BK899.out 1
        have hfz11_2 := blk_frozen BK899.out 2
        have hfz11_3 := blk_frozen BK899.out 3
        go_wp2_with (first | ((with_reducible refine gate_dst (N := 13) rfl ?_); refine Kd.R_make Kd.bool _ 4 rfl (N := 13) rfl 23 _ _ rfl a0_0 rfl rfl Try.underlying23 (.bool false) 1 info4 rfl (by decide) (by omega) false (ok := fun _ => True) (okp := fun _ => True) rfl (fun _ hk => hk) trivial (of_decide_eq_true (by first | (with_reducible assumption) | assumption)) (Nat.le_trans (Nat.mul_le_mul_right _ (of_decide_eq_true (by first | (with_reducible assumption) | assumption) : a0_0.toNat ≤ 281474976710656)) (by omega)) (Below.refl _ _) (Nat.le_refl _) ?_; intro v902 w12 ho13 hb hg_ hnew_; clear hg_ hnew_; (first | rw [← Ny901.out] at ho13 | (simp only [Int.reduceToNat] at ho13; rw [← Ny901.out] at ho13)); have n0_ := Aside0.mk (Kd.R_lower ho13 (below_size (by repeat (first | (with_reducible first | exact HB.out | apply below_alloc | apply pw_below_drewN | apply below_drew1 | refine below_set ?_ GE899.out) | exact HB.out)))); have n1_ := Aside0.mk (blk_below (g := gb899) (o := .cells #[.int .i64 a0_0, .slice A0_1 l0_1.length c0_1, .slice A0_2 l0_2.length c0_2, .slice A0_3 l0_3.length c0_3] 28 (0, 0)) (by (with_reducible repeat (first | refine blk_drewN ?_ _ | refine blk_drew ?_ | refine blk_alloc ?_ _)); exact BK899.out) hb); have n2_ := Aside0.mk (below_step (by repeat (first | (with_reducible first | exact HB.out | apply below_alloc | apply pw_below_drewN | apply below_drew1 | refine below_set ?_ GE899.out) | exact HB.out)) hb); clear BK899; clear HB; have HO903 := n0_; have BK899 := n1_; have HB := n2_; clear n0_ n1_ n2_; clear hb ho13))
        go_loopg [16] k (fun kq v16 w' => ∃ (x5_1 : List Bool) (x16_1 : Int), v16 = .int .i64 x16_1 ∧ Aside0 (impl_IsView.l0 kq l1 x5_1 l1 (l1.length : Int) x16_1 a0_0 l0_1 l0_2 l0_3 = some r) ∧ Aside0 (kq ≤ k) ∧ Aside0 (Kd.R Kd.bool 4 w' w.heap.size (fun _ => True) v902 x5_1) ∧ Aside0 (w'.heap[gb899]? = some (.cells #[.int .i64 a0_0, (.slice A0_1 l0_1.length c0_1), (.slice A0_2 l0_2.length c0_2), (.slice A0_3 l0_3.length c0_3)] 28 (0, 0))) ∧ Aside0 (Below w.heap.size w w'))
        case atStart => exact ⟨(y901), (0), (by first | rfl | (simp; done) | (simp [*]; done)), H', ⟨Nat.le_refl _⟩, ⟨by (with_reducible repeat (first | apply Kd.R_alloc | apply Kd.R_drewN | apply Kd.R_drew)); exact HO903.out⟩, ⟨by (with_reducible repeat (first | refine blk_drewN ?_ _ | refine blk_drew ?_ | refine blk_alloc ?_ _)); exact BK899.out⟩, ⟨by repeat (first | (with_reducible first | exact HB.out | apply below_alloc | apply pw_below_drewN | apply below_drew1 | refine below_set ?_ GE899.out) | exact HB.out)⟩⟩
        case round =>
          clear H'
          try clear c1
          try clear p2
          try clear c4
          try clear c8
          try clear c9
          try clear c9b0
          try clear c9b1
          try clear c10
          try clear c10b0
          try clear c10b1
          try clear hcz11_0
          try clear hcz11_1
          try clear hcz11_2
          try clear hcz11_3
          try clear hcz6_0
          try clear hcz6_1
          try clear hcz6_2
          try clear hcz6_3
          try clear hfz11_0
          try clear hfz11_1
          try clear hfz11_2
          try clear hfz11_3
          try clear hfz6_0
          try clear hfz6_1
          try clear hfz6_2
          try clear hfz6_3
          obtain ⟨x5_1, x16_1, rfl, HA, HK1, HO_5, BK899, HB⟩ := hrel
          cases gk with
          | zero => exact absurd HA.out (by simp [impl_IsView.l0])
          | succ k1 =>
            have H := HA.out
            clear HA
            simp only [impl_IsView.l0] at H
            by_cases c14 : x16_1 < (l1.length : Int)
            · rw [if_pos c14] at H
              have c14b0 : decide (x16_1 < (l1.length : Int)) = true := decide_eq_true c14
              clear c14
              (first | rw [c14b0] | (simp only [i64_w, i32_w]; rw [c14b0]) | skip)
              by_cases c15 : 0 ≤ x16_1
              · rw [if_pos c15] at H
                have c15b0 : decide (0 ≤ x16_1) = true := decide_eq_true c15
                clear c15
                by_cases c16 : x16_1 < (l1.length : Int)
                · rw [if_pos c16] at H
                  have c16b0 : decide (x16_1 < (l1.length : Int)) = true := decide_eq_true c16
                  clear c16
                  replace H := Option.bind_eq_some_iff.mp H
                  obtain ⟨t905, A170, H⟩ := H
                  replace H : (if t905 = true then (if x16_1 > 0 then (if 0 ≤ (wrap64 (x16_1 - 1)) then (if (wrap64 (x16_1 - 1)) < (l1.length : Int) then (if (rd l1 x16_1) ≤ (rd l1 (wrap64 (x16_1 - 1))) then (some false) else (if 0 ≤ (rd l1 x16_1) then (if (rd l1 x16_1) < (x5_1.length : Int) then (impl_IsView.l0 k1 l1 (x5_1.set ((rd l1 x16_1) : Int).toNat true) l1 (l1.length : Int) (wrap64 (x16_1 + 1)) a0_0 l0_1 l0_2 l0_3) else (none)) else (none))) else (none)) else (none)) else (if 0 ≤ (rd l1 x16_1) then (if (rd l1 x16_1) < (x5_1.length : Int) then (impl_IsView.l0 k1 l1 (x5_1.set ((rd l1 x16_1) : Int).toNat true) l1 (l1.length : Int) (wrap64 (x16_1 + 1)) a0_0 l0_1 l0_2 l0_3) else (none)) else (none))) else (some false)) = some r := H
                  have A17 := Aside0.mk A170
                  clear A170
                  by_cases c18 : t905 = true
                  · subst c18
                    have H1 : (if x16_1 > 0 then (if 0 ≤ (wrap64 (x16_1 - 1)) then (if (wrap64 (x16_1 - 1)) < (l1.length : Int) then (if (rd l1 x16_1) ≤ (rd l1 (wrap64 (x16_1 - 1))) then (some false) else (if 0 ≤ (rd l1 x16_1) then (if (rd l1 x16_1) < (x5_1.length : Int) then (impl_IsView.l0 k1 l1 (x5_1.set ((rd l1 x16_1) : Int).toNat true) l1 (l1.length : Int) (wrap64 (x16_1 + 1)) a0_0 l0_1 l0_2 l0_3) else (none)) else (none))) else (none)) else (none)) else (if 0 ≤ (rd l1 x16_1) then (if (rd l1 x16_1) < (x5_1.length : Int) then (impl_IsView.l0 k1 l1 (x5_1.set ((rd l1 x16_1) : Int).toNat true) l1 (l1.length : Int) (wrap64 (x16_1 + 1)) a0_0 l0_1 l0_2 l0_3) else (none)) else (none))) = some r := by rw [if_pos rfl] at H; exact H
                    clear H
                    have H := H1
                    clear H1
                    by_cases c19 : x16_1 > 0
                    · rw [if_pos c19] at H
                      have c19b0 : decide (0 < x16_1) = true := decide_eq_true c19
                      clear c19
                      obtain ⟨ji20, hji20⟩ : ∃ j_ : Int, (wrap64 (x16_1 - 1)) = j_ := ⟨_, rfl⟩
                      replace H : (if 0 ≤ (ji20) then (if (ji20) < (l1.length : Int) then (if (rd l1 x16_1) ≤ (rd l1 (ji20)) then (some false) else (if 0 ≤ (rd l1 x16_1) then (if (rd l1 x16_1) < (x5_1.length : Int) then (impl_IsView.l0 k1 l1 (x5_1.set ((rd l1 x16_1) : Int).toNat true) l1 (l1.length : Int) (wrap64 (x16_1 + 1)) a0_0 l0_1 l0_2 l0_3) else (none)) else (none))) else (none)) else (none)) = some r := by first | (rw [hji20] at H; exact H) | (simp only [hji20] at H ⊢; exact H)
                      (try rw [hji20] at A17)
                      have hji20w : (IntKind.i64.wrap (x16_1 - 1)) = ji20 := (i64_w _).trans hji20
                      by_cases c21 : 0 ≤ (ji20)
                      · rw [if_pos c21] at H
                        have c21b0 : decide (0 ≤ (ji20)) = true := decide_eq_true c21
                        clear c21
                        by_cases c22 : (ji20) < (l1.length : Int)
                        · rw [if_pos c22] at H
                          have c22b0 : decide ((ji20) < (l1.length : Int)) = true := decide_eq_true c22
                          clear c22
                          have HP23 := Aside0.mk H
                          clear H
                          have p904 : 0 ≤ (x16_1 : Int) := of_decide_eq_true (by first | (with_reducible assumption) | assumption)
                          have q904 : x16_1 < (l1.length : Int) := of_decide_eq_true (by first | (with_reducible assumption) | assumption)
                          obtain ⟨ad904, e904, hx904_0⟩ := Kd.at_int HR1.out x16_1 p904 q904
                          cases e904
                          replace hx904_0 := (HB.out.cell (World.block_lt_of_cell? w _ hx904_0)).trans hx904_0
                          replace p904 := eq_true p904
                          replace q904 := eq_true q904
                          have hcz24_0 : wr.cell? ⟨gb899, 0, none⟩ = some (.int .i64 a0_0) := (blk_cell BK899.out 0).trans rfl
                          have hcz24_1 : wr.cell? ⟨gb899, 1, none⟩ = some (.slice A0_1 l0_1.length c0_1) := (blk_cell BK899.out 1).trans rfl
                          have hcz24_2 : wr.cell? ⟨gb899, 2, none⟩ = some (.slice A0_2 l0_2.length c0_2) := (blk_cell BK899.out 2).trans rfl
                          have hcz24_3 : wr.cell? ⟨gb899, 3, none⟩ = some (.slice A0_3 l0_3.length c0_3) := (blk_cell BK899.out 3).trans rfl
                          have hfz24_0 := blk_frozen BK899.out 0
                          have hfz24_1 := blk_frozen BK899.out 1
                          have hfz24_2 := blk_frozen BK899.out 2
                          have hfz24_3 := blk_frozen BK899.out 3
                          go_upto_if 37 with (first | ((with_reducible refine gate_callee (f := 52) rfl ?_); refine goesL_ (some 23) rfl rfl Try.func52 (by kernel_rfl) rfl #[.agg #[.int .i64 a0_0, .slice A0_1 l0_1.length c0_1, .slice A0_2 l0_2.length c0_2, .slice A0_3 l0_3.length c0_3], .int .i64 (rd l1 x16_1)] rfl (by (try simp only [List.map_toArray, List.map_cons, List.map_nil]); first | done | rfl | (simp only [List.length_drop, List.length_take]; rfl)) ?_; (with_reducible refine (impl_System_has.calls a0_0 _ _ l0_1 _ _ l0_2 _ _ l0_3 (rd l1 x16_1) true _ ?side1 ?side2 ?side3 ?side4 ?side5 ?side6 A17.out).mono ?_); (case side1 => repeat (first | exact (Kd.C_below HR0_1.out HB.out) | (with_reducible refine Kd.C_alloc ?_ _) | (with_reducible refine Kd.C_drewN ?_ _) | (with_reducible refine Kd.C_drew ?_))); (case side2 => exact HC0_1.out); (case side3 => repeat (first | exact (Kd.C_below HR0_2.out HB.out) | (with_reducible refine Kd.C_alloc ?_ _) | (with_reducible refine Kd.C_drewN ?_ _) | (with_reducible refine Kd.C_drew ?_))); (case side4 => exact HC0_2.out); (case side5 => repeat (first | exact (Kd.C_below HR0_3.out HB.out) | (with_reducible refine Kd.C_alloc ?_ _) | (with_reducible refine Kd.C_drewN ?_ _) | (with_reducible refine Kd.C_drew ?_))); (case side6 => exact HC0_3.out); rintro e w25 ⟨rfl, hb⟩; refine ⟨_, rfl, ?_⟩; have n0_ := Aside0.mk (Kd.R_below (by (with_reducible repeat (first | apply Kd.R_alloc | apply Kd.R_drewN | apply Kd.R_drew)); exact HO_5.out) hb); have n1_ := Aside0.mk (blk_below (g := gb899) (o := .cells #[.int .i64 a0_0, .slice A0_1 l0_1.length c0_1, .slice A0_2 l0_2.length c0_2, .slice A0_3 l0_3.length c0_3] 28 (0, 0)) (by (with_reducible repeat (first | refine blk_drewN ?_ _ | refine blk_drew ?_ | refine blk_alloc ?_ _)); exact BK899.out) hb); have n2_ := Aside0.mk (below_step (by repeat (first | (with_reducible first | exact HB.out | apply below_alloc | apply pw_below_drewN | apply below_drew1 | refine below_set ?_ GE899.out) | exact HB.out)) hb); clear HO_5; clear BK899; clear HB; have HO_5 := n0_; have BK899 := n1_; have HB := n2_; clear n0_ n1_ n2_; (try clear hb); (try clear hb2); (try clear hk); (try clear hi); have p906 : 0 ≤ ((ji20) : Int) := of_decide_eq_true (by first | (with_reducible assumption) | assumption); have q906 : (ji20) < (l1.length : Int) := of_decide_eq_true (by first | (with_reducible assumption) | assumption); obtain ⟨ad906, e906, hx906_0⟩ := Kd.at_int HR1.out (ji20) p906 q906; obtain rfl : ad904 = ad906 := (by injection e906); replace hx906_0 := (HB.out.cell (World.block_lt_of_cell? w _ hx906_0)).trans hx906_0; replace p906 := eq_true p906; replace q906 := eq_true q906))
                          have H := HP23.out
                          clear HP23
                          by_cases c26 : (rd l1 x16_1) ≤ (rd l1 (ji20))
                          · rw [if_pos c26] at H
                            have c26b0 : decide ((rd l1 x16_1) ≤ (rd l1 (ji20))) = true := decide_eq_true c26
                            clear c26
                            (first | rw [c26b0] | (simp only [i64_w, i32_w]; rw [c26b0]) | skip)
                            obtain rfl := Option.some.inj H
                            go_wp2
                            go_ret
                            exact ⟨by first | rfl | (simp [errW_none, errW_some] <;> rfl) | (simp only [← hji20]; first | rfl | (simp [errW_none, errW_some] <;> rfl)) | (simp [*, errW_none, errW_some] <;> rfl), by repeat (first | (with_reducible first | exact HB.out | apply below_alloc | apply pw_below_drewN | apply below_drew1 | refine below_set ?_ GE899.out) | exact HB.out)⟩
                          · rw [if_neg c26] at H
                            have c26b0 : decide ((rd l1 x16_1) ≤ (rd l1 (ji20))) = false := decide_eq_false c26
                            clear c26
                            (first | rw [c26b0] | (simp only [i64_w, i32_w]; rw [c26b0]) | skip)
                            by_cases c27 : 0 ≤ (rd l1 x16_1)
                            · rw [if_pos c27] at H
                              have c27b0 : decide (0 ≤ (rd l1 x16_1)) = true := decide_eq_true c27
                              clear c27
                              by_cases c28 : (rd l1 x16_1) < (x5_1.length : Int)
                              · rw [if_pos c28] at H
                                have c28b0 : decide ((rd l1 x16_1) < (x5_1.length : Int)) = true := decide_eq_true c28
                                clear c28
                                obtain ⟨y907, hy907⟩ : ∃ y_ : List Bool, y_ = (x5_1.set ((rd l1 x16_1) : Int).toNat true) := ⟨_, rfl⟩
                                replace H : (impl_IsView.l0 k1 l1 y907 l1 (l1.length : Int) (wrap64 (x16_1 + 1)) a0_0 l0_1 l0_2 l0_3) = some r := by first | (rw [hy907]; with_reducible exact H) | (have H2_ := (Option.bind_some _ _).symm.trans H; rw [hy907]; with_reducible exact H2_) | (have H2_ := (Option.bind_some _ _).symm.trans H; with_reducible exact H2_) | with_reducible exact H | (rw [hy907]; exact H) | exact H
                                have Ny907 := Aside0.mk hy907
                                clear hy907
                                have H' := Aside0.mk H
                                clear H
                                have p29 : 0 ≤ ((rd l1 x16_1) : Int) := of_decide_eq_true (by first | (with_reducible assumption) | assumption)
                                have q29 : ((rd l1 x16_1) : Int) < ((x5_1.length : Int) : Int) := of_decide_eq_true (by first | (with_reducible assumption) | assumption)
                                obtain ⟨go29, co29, eo29, gb29, gl29, cl29, HG29⟩ := Kd.R_form HO_5.out (by omega)
                                (first | cases eo29 | (injection eo29 with ea_ en_ ec_; (first | subst ea_ | (injection ea_ with ea_; subst ea_)); subst ec_; clear en_))
                                have GB29 := Aside0.mk gb29
                                have GG29 := Aside0.mk HG29
                                clear gb29 gl29 HG29
                                obtain ⟨hx29_0, hf29_0⟩ := Kd.R_celln false HO_5.out ((rd l1 x16_1) : Int) p29 q29
                                replace p29 := eq_true p29
                                replace q29 := eq_true q29
                                have HP30 := Kd.R_putg HO_5.out ((rd l1 x16_1) : Int) true
                                go_wp2_with (first | ((with_reducible refine gate_store (t := 4) (p := 40) rfl ?_); refine store_event (t := 4) (p := 40) (v := ?vo_w31) (w1 := (w25.setCell ⟨go29, ((rd l1 x16_1) : Int).toNat, none⟩ (.bool true))) ?hg ?ho ?hn ?hr ?_; (case ho => rfl); (case hg => rfl); (case hn => rfl); (case hr => first | (go_simp; done) | (go_simp; rfl)); intro w31 hw; have hg : w25.grownBy w31 (some go29) := (by rw [hw]; exact HP30.2); have hp_ : Kd.R Kd.bool 4 w31 w.heap.size (fun _ => True) (.slice (some ⟨go29, 0, none⟩) x5_1.length co29) y907 := (by rw [hw, Ny907.out]; exact HP30.1); clear HP30; have n0_ := Aside0.mk (hp_); have n1_ := Aside0.mk (blk_grown (g := gb899) (o := .cells #[.int .i64 a0_0, .slice A0_1 l0_1.length c0_1, .slice A0_2 l0_2.length c0_2, .slice A0_3 l0_3.length c0_3] 28 (0, 0)) (by (with_reducible repeat (first | refine blk_drewN ?_ _ | refine blk_drew ?_ | refine blk_alloc ?_ _)); exact BK899.out) hg (Kd.R_ne HO_5.out BK899.out (by decide))); have n2_ := Aside0.mk ((by rw [hw]; exact below_set (HB.out) GB29.out : Below w.heap.size w w31)); clear HO_5; clear BK899; clear HB; have HO_5 := n0_; have BK899 := n1_; have HB := n2_; clear n0_ n1_ n2_; clear hg hw hp_))
                                go_roundg k1
                                case measure => have := HK1.out; omega
                                case rel => exact ⟨(y907), (wrap64 (x16_1 + 1)), (by first | rfl | (simp; done) | (simp [*]; done)), H', ⟨by have := HK1.out; omega⟩, ⟨by (with_reducible repeat (first | apply Kd.R_alloc | apply Kd.R_drewN | apply Kd.R_drew)); exact HO_5.out⟩, ⟨by (with_reducible repeat (first | refine blk_drewN ?_ _ | refine blk_drew ?_ | refine blk_alloc ?_ _)); exact BK899.out⟩, ⟨by repeat (first | (with_reducible first | exact HB.out | apply below_alloc | apply pw_below_drewN | apply below_drew1 | refine below_set ?_ GE899.out) | exact HB.out)⟩⟩
                              · rw [if_neg c28] at H
                                exact absurd H (by simp)
                            · rw [if_neg c27] at H
                              exact absurd H (by simp)
                        · rw [if_neg c22] at H
                          exact absurd H (by simp)
                      · rw [if_neg c21] at H
                        exact absurd H (by simp)
                    · rw [if_neg c19] at H
                      have c19b0 : decide (0 < x16_1) = false := decide_eq_false c19
                      clear c19
                      by_cases c32 : 0 ≤ (rd l1 x16_1)
                      · rw [if_pos c32] at H
                        have c32b0 : decide (0 ≤ (rd l1 x16_1)) = true := decide_eq_true c32
                        clear c32
                        by_cases c33 : (rd l1 x16_1) < (x5_1.length : Int)
                        · rw [if_pos c33] at H
                          have c33b0 : decide ((rd l1 x16_1) < (x5_1.length : Int)) = true := decide_eq_true c33
                          clear c33
                          obtain ⟨y908, hy908⟩ : ∃ y_ : List Bool, y_ = (x5_1.set ((rd l1 x16_1) : Int).toNat true) := ⟨_, rfl⟩
                          replace H : (impl_IsView.l0 k1 l1 y908 l1 (l1.length : Int) (wrap64 (x16_1 + 1)) a0_0 l0_1 l0_2 l0_3) = some r := by first | (rw [hy908]; with_reducible exact H) | (have H2_ := (Option.bind_some _ _).symm.trans H; rw [hy908]; with_reducible exact H2_) | (have H2_ := (Option.bind_some _ _).symm.trans H; with_reducible exact H2_) | with_reducible exact H | (rw [hy908]; exact H) | exact H
                          have Ny908 := Aside0.mk hy908
                          clear hy908
                          have H' := Aside0.mk H
                          clear H
                          have p904 : 0 ≤ (x16_1 : Int) := of_decide_eq_true (by first | (with_reducible assumption) | assumption)
                          have q904 : x16_1 < (l1.length : Int) := of_decide_eq_true (by first | (with_reducible assumption) | assumption)
                          obtain ⟨ad904, e904, hx904_0⟩ := Kd.at_int HR1.out x16_1 p904 q904
                          cases e904
                          replace hx904_0 := (HB.out.cell (World.block_lt_of_cell? w _ hx904_0)).trans hx904_0
                          replace p904 := eq_true p904
                          replace q904 := eq_true q904
                          have hcz35_0 : wr.cell? ⟨gb899, 0, none⟩ = some (.int .i64 a0_0) := (blk_cell BK899.out 0).trans rfl
                          have hcz35_1 : wr.cell? ⟨gb899, 1, none⟩ = some (.slice A0_1 l0_1.length c0_1) := (blk_cell BK899.out 1).trans rfl
                          have hcz35_2 : wr.cell? ⟨gb899, 2, none⟩ = some (.slice A0_2 l0_2.length c0_2) := (blk_cell BK899.out 2).trans rfl
                          have hcz35_3 : wr.cell? ⟨gb899, 3, none⟩ = some (.slice A0_3 l0_3.length c0_3) := (blk_cell BK899.out 3).trans rfl
                          have hfz35_0 := blk_frozen BK899.out 0
                          have hfz35_1 := blk_frozen BK899.out 1
                          have hfz35_2 := blk_frozen BK899.out 2
                          have hfz35_3 := blk_frozen BK899.out 3
                          go_wp2_with (first | ((with_reducible refine gate_callee (f := 52) rfl ?_); refine goesL_ (some 23) rfl rfl Try.func52 (by kernel_rfl) rfl #[.agg #[.int .i64 a0_0, .slice A0_1 l0_1.length c0_1, .slice A0_2 l0_2.length c0_2, .slice A0_3 l0_3.length c0_3], .int .i64 (rd l1 x16_1)] rfl (by (try simp only [List.map_toArray, List.map_cons, List.map_nil]); first | done | rfl | (simp only [List.length_drop, List.length_take]; rfl)) ?_; (with_reducible refine (impl_System_has.calls a0_0 _ _ l0_1 _ _ l0_2 _ _ l0_3 (rd l1 x16_1) true _ ?side1 ?side2 ?side3 ?side4 ?side5 ?side6 A17.out).mono ?_); (case side1 => repeat (first | exact (Kd.C_below HR0_1.out HB.out) | (with_reducible refine Kd.C_alloc ?_ _) | (with_reducible refine Kd.C_drewN ?_ _) | (with_reducible refine Kd.C_drew ?_))); (case side2 => exact HC0_1.out); (case side3 => repeat (first | exact (Kd.C_below HR0_2.out HB.out) | (with_reducible refine Kd.C_alloc ?_ _) | (with_reducible refine Kd.C_drewN ?_ _) | (with_reducible refine Kd.C_drew ?_))); (case side4 => exact HC0_2.out); (case side5 => repeat (first | exact (Kd.C_below HR0_3.out HB.out) | (with_reducible refine Kd.C_alloc ?_ _) | (with_reducible refine Kd.C_drewN ?_ _) | (with_reducible refine Kd.C_drew ?_))); (case side6 => exact HC0_3.out); rintro e w36 ⟨rfl, hb⟩; refine ⟨_, rfl, ?_⟩; have n0_ := Aside0.mk (Kd.R_below (by (with_reducible repeat (first | apply Kd.R_alloc | apply Kd.R_drewN | apply Kd.R_drew)); exact HO_5.out) hb); have n1_ := Aside0.mk (blk_below (g := gb899) (o := .cells #[.int .i64 a0_0, .slice A0_1 l0_1.length c0_1, .slice A0_2 l0_2.length c0_2, .slice A0_3 l0_3.length c0_3] 28 (0, 0)) (by (with_reducible repeat (first | refine blk_drewN ?_ _ | refine blk_drew ?_ | refine blk_alloc ?_ _)); exact BK899.out) hb); have n2_ := Aside0.mk (below_step (by repeat (first | (with_reducible first | exact HB.out | apply below_alloc | apply pw_below_drewN | apply below_drew1 | refine below_set ?_ GE899.out) | exact HB.out)) hb); clear HO_5; clear BK899; clear HB; have HO_5 := n0_; have BK899 := n1_; have HB := n2_; clear n0_ n1_ n2_; (try clear hb); (try clear hb2); (try clear hk); (try clear hi); have p34 : 0 ≤ ((rd l1 x16_1) : Int) := of_decide_eq_true (by first | (with_reducible assumption) | assumption); have q34 : ((rd l1 x16_1) : Int) < ((x5_1.length : Int) : Int) := of_decide_eq_true (by first | (with_reducible assumption) | assumption); obtain ⟨go34, co34, eo34, gb34, gl34, cl34, HG34⟩ := Kd.R_form HO_5.out (by omega); (first | cases eo34 | (injection eo34 with ea_ en_ ec_; (first | subst ea_ | (injection ea_ with ea_; subst ea_)); subst ec_; clear en_)); have GB34 := Aside0.mk gb34; have GG34 := Aside0.mk HG34; clear gb34 gl34 HG34; obtain ⟨hx34_0, hf34_0⟩ := Kd.R_celln false HO_5.out ((rd l1 x16_1) : Int) p34 q34; replace p34 := eq_true p34; replace q34 := eq_true q34; obtain ⟨hy37_, hz37_⟩ := Kd.R_celln false HO_5.out ((rd l1 x16_1) : Int) (of_decide_eq_true (by first | (with_reducible assumption) | assumption)) (of_decide_eq_true (by first | (with_reducible assumption) | assumption)); have HP37 := Kd.R_putg HO_5.out ((rd l1 x16_1) : Int) true) | ((with_reducible refine gate_store (t := 4) (p := 40) rfl ?_); refine store_event (t := 4) (p := 40) (v := ?vo_w38) (w1 := (w36.setCell ⟨go34, ((rd l1 x16_1) : Int).toNat, none⟩ (.bool true))) ?hg ?ho ?hn ?hr ?_; (case ho => rfl); (case hg => rfl); (case hn => rfl); (case hr => first | (go_simp; done) | (go_simp; rfl)); intro w38 hw; have hg : w36.grownBy w38 (some go34) := (by rw [hw]; exact HP37.2); have hp_ : Kd.R Kd.bool 4 w38 w.heap.size (fun _ => True) (.slice (some ⟨go34, 0, none⟩) x5_1.length co34) y908 := (by rw [hw, Ny908.out]; exact HP37.1); clear HP37; have n0_ := Aside0.mk (hp_); have n1_ := Aside0.mk (blk_grown (g := gb899) (o := .cells #[.int .i64 a0_0, .slice A0_1 l0_1.length c0_1, .slice A0_2 l0_2.length c0_2, .slice A0_3 l0_3.length c0_3] 28 (0, 0)) (by (with_reducible repeat (first | refine blk_drewN ?_ _ | refine blk_drew ?_ | refine blk_alloc ?_ _)); exact BK899.out) hg (Kd.R_ne HO_5.out BK899.out (by decide))); have n2_ := Aside0.mk ((by rw [hw]; exact below_set (HB.out) GB34.out : Below w.heap.size w w38)); clear HO_5; clear BK899; clear HB; have HO_5 := n0_; have BK899 := n1_; have HB := n2_; clear n0_ n1_ n2_; clear hg hw hp_))
                          go_roundg k1
                          case measure => have := HK1.out; omega
                          case rel => exact ⟨(y908), (wrap64 (x16_1 + 1)), (by first | rfl | (simp; done) | (simp [*]; done)), H', ⟨by have := HK1.out; omega⟩, ⟨by (with_reducible repeat (first | apply Kd.R_alloc | apply Kd.R_drewN | apply Kd.R_drew)); exact HO_5.out⟩, ⟨by (with_reducible repeat (first | refine blk_drewN ?_ _ | refine blk_drew ?_ | refine blk_alloc ?_ _)); exact BK899.out⟩, ⟨by repeat (first | (with_reducible first | exact HB.out | apply below_alloc | apply pw_below_drewN | apply below_drew1 | refine below_set ?_ GE899.out) | exact HB.out)⟩⟩
                        · rw [if_neg c33] at H
                          exact absurd H (by simp)
                      · rw [if_neg c32] at H
                        exact absurd H (by simp)
                  · replace c18 := Bool.eq_false_iff.mpr c18
                    subst c18
                    have H1 : (some false) = some r := by rw [if_neg (show ¬ (false = true) by decide)] at H; exact H
                    clear H
                    have H := H1
                    clear H1
                    obtain rfl := Option.some.inj H
                    have p904 : 0 ≤ (x16_1 : Int) := of_decide_eq_true (by first | (with_reducible assumption) | assumption)
                    have q904 : x16_1 < (l1.length : Int) := of_decide_eq_true (by first | (with_reducible assumption) | assumption)
                    obtain ⟨ad904, e904, hx904_0⟩ := Kd.at_int HR1.out x16_1 p904 q904
                    cases e904
                    replace hx904_0 := (HB.out.cell (World.block_lt_of_cell? w _ hx904_0)).trans hx904_0
                    replace p904 := eq_true p904
                    replace q904 := eq_true q904
                    have hcz39_0 : wr.cell? ⟨gb899, 0, none⟩ = some (.int .i64 a0_0) := (blk_cell BK899.out 0).trans rfl
                    have hcz39_1 : wr.cell? ⟨gb899, 1, none⟩ = some (.slice A0_1 l0_1.length c0_1) := (blk_cell BK899.out 1).trans rfl
                    have hcz39_2 : wr.cell? ⟨gb899, 2, none⟩ = some (.slice A0_2 l0_2.length c0_2) := (blk_cell BK899.out 2).trans rfl
                    have hcz39_3 : wr.cell? ⟨gb899, 3, none⟩ = some (.slice A0_3 l0_3.length c0_3) := (blk_cell BK899.out 3).trans rfl
                    have hfz39_0 := blk_frozen BK899.out 0
                    have hfz39_1 := blk_frozen BK899.out 1
                    have hfz39_2 := blk_frozen BK899.out 2
                    have hfz39_3 := blk_frozen BK899.out 3
                    go_wp2_with (first | ((with_reducible refine gate_callee (f := 52) rfl ?_); refine goesL_ (some 23) rfl rfl Try.func52 (by kernel_rfl) rfl #[.agg #[.int .i64 a0_0, .slice A0_1 l0_1.length c0_1, .slice A0_2 l0_2.length c0_2, .slice A0_3 l0_3.length c0_3], .int .i64 (rd l1 x16_1)] rfl (by (try simp only [List.map_toArray, List.map_cons, List.map_nil]); first | done | rfl | (simp only [List.length_drop, List.length_take]; rfl)) ?_; (with_reducible refine (impl_System_has.calls a0_0 _ _ l0_1 _ _ l0_2 _ _ l0_3 (rd l1 x16_1) false _ ?side1 ?side2 ?side3 ?side4 ?side5 ?side6 A17.out).mono ?_); (case side1 => repeat (first | exact (Kd.C_below HR0_1.out HB.out) | (with_reducible refine Kd.C_alloc ?_ _) | (with_reducible refine Kd.C_drewN ?_ _) | (with_reducible refine Kd.C_drew ?_))); (case side2 => exact HC0_1.out); (case side3 => repeat (first | exact (Kd.C_below HR0_2.out HB.out) | (with_reducible refine Kd.C_alloc ?_ _) | (with_reducible refine Kd.C_drewN ?_ _) | (with_reducible refine Kd.C_drew ?_))); (case side4 => exact HC0_2.out); (case side5 => repeat (first | exact (Kd.C_below HR0_3.out HB.out) | (with_reducible refine Kd.C_alloc ?_ _) | (with_reducible refine Kd.C_drewN ?_ _) | (with_reducible refine Kd.C_drew ?_))); (case side6 => exact HC0_3.out); rintro e w40 ⟨rfl, hb⟩; refine ⟨_, rfl, ?_⟩; have n0_ := Aside0.mk (Kd.R_below (by (with_reducible repeat (first | apply Kd.R_alloc | apply Kd.R_drewN | apply Kd.R_drew)); exact HO_5.out) hb); have n1_ := Aside0.mk (blk_below (g := gb899) (o := .cells #[.int .i64 a0_0, .slice A0_1 l0_1.length c0_1, .slice A0_2 l0_2.length c0_2, .slice A0_3 l0_3.length c0_3] 28 (0, 0)) (by (with_reducible repeat (first | refine blk_drewN ?_ _ | refine blk_drew ?_ | refine blk_alloc ?_ _)); exact BK899.out) hb); have n2_ := Aside0.mk (below_step (by repeat (first | (with_reducible first | exact HB.out | apply below_alloc | apply pw_below_drewN | apply below_drew1 | refine below_set ?_ GE899.out) | exact HB.out)) hb); clear HO_5; clear BK899; clear HB; have HO_5 := n0_; have BK899 := n1_; have HB := n2_; clear n0_ n1_ n2_; (try clear hb); (try clear hb2); (try clear hk); (try clear hi)))
                    go_ret
                    exact ⟨by first | rfl | (simp [errW_none, errW_some] <;> rfl) | (simp [*, errW_none, errW_some] <;> rfl), by repeat (first | (with_reducible first | exact HB.out | apply below_alloc | apply pw_below_drewN | apply below_drew1 | refine below_set ?_ GE899.out) | exact HB.out)⟩
                · rw [if_neg c16] at H
                  exact absurd H (by simp)
              · rw [if_neg c15] at H
                exact absurd H (by simp)
            · rw [if_neg c14] at H
              have c14b0 : decide (x16_1 < (l1.length : Int)) = false := decide_eq_false c14
              clear c14
              (first | rw [c14b0] | (simp only [i64_w, i32_w]; rw [c14b0]) | skip)
              replace H := Option.bind_eq_some_iff.mp H
              obtain ⟨t909, A410, H⟩ := H
              replace H : (some t909) = some r := H
              have A41 := Aside0.mk A410
              clear A410
              obtain rfl := Option.some.inj H
              have hcz42_0 : wr.cell? ⟨gb899, 0, none⟩ = some (.int .i64 a0_0) := (blk_cell BK899.out 0).trans rfl
              have hcz42_1 : wr.cell? ⟨gb899, 1, none⟩ = some (.slice A0_1 l0_1.length c0_1) := (blk_cell BK899.out 1).trans rfl
              have hcz42_2 : wr.cell? ⟨gb899, 2, none⟩ = some (.slice A0_2 l0_2.length c0_2) := (blk_cell BK899.out 2).trans rfl
              have hcz42_3 : wr.cell? ⟨gb899, 3, none⟩ = some (.slice A0_3 l0_3.length c0_3) := (blk_cell BK899.out 3).trans rfl
              have hfz42_0 := blk_frozen BK899.out 0
              have hfz42_1 := blk_frozen BK899.out 1
              have hfz42_2 := blk_frozen BK899.out 2
              have hfz42_3 := blk_frozen BK899.out 3
              obtain ⟨Ao43, co43, eo43⟩ := Kd.R_slice HO_5.out
              subst eo43
              go_wp2_with (first | ((with_reducible refine gate_callee (f := 70) rfl ?_); refine goesL_ (some 44) rfl rfl Try.func70 (by kernel_rfl) rfl #[.agg #[.int .i64 a0_0, .slice A0_1 l0_1.length c0_1, .slice A0_2 l0_2.length c0_2, .slice A0_3 l0_3.length c0_3], .slice Ao43 x5_1.length co43] rfl (by (try simp only [List.map_toArray, List.map_cons, List.map_nil]); first | done | rfl | (simp only [List.length_drop, List.length_take]; rfl)) ?_; (with_reducible refine (impl_isView.calls k1 a0_0 _ _ l0_1 _ _ l0_2 _ _ l0_3 _ _ x5_1 t909 _ ?side1 ?side2 ?side3 ?side4 ?side5 ?side6 ?side7 ?side8 A41.out).mono ?_); (case side1 => repeat (first | exact (Kd.C_below HR0_1.out HB.out) | (with_reducible refine Kd.C_alloc ?_ _) | (with_reducible refine Kd.C_drewN ?_ _) | (with_reducible refine Kd.C_drew ?_))); (case side2 => exact HC0_1.out); (case side3 => repeat (first | exact (Kd.C_below HR0_2.out HB.out) | (with_reducible refine Kd.C_alloc ?_ _) | (with_reducible refine Kd.C_drewN ?_ _) | (with_reducible refine Kd.C_drew ?_))); (case side4 => exact HC0_2.out); (case side5 => repeat (first | exact (Kd.C_below HR0_3.out HB.out) | (with_reducible refine Kd.C_alloc ?_ _) | (with_reducible refine Kd.C_drewN ?_ _) | (with_reducible refine Kd.C_drew ?_))); (case side6 => exact HC0_3.out); (case side7 => repeat (first | exact (Kd.R_reads' HO_5.out).2.2 | (with_reducible refine Kd.C_alloc ?_ _) | (with_reducible refine Kd.C_drewN ?_ _) | (with_reducible refine Kd.C_drew ?_))); (case side8 => exact (Kd.R_reads' HO_5.out).2.1); rintro e w44 ⟨rfl, hb⟩; refine ⟨_, rfl, ?_⟩; have n0_ := Aside0.mk (Kd.R_below (by (with_reducible repeat (first | apply Kd.R_alloc | apply Kd.R_drewN | apply Kd.R_drew)); exact HO_5.out) hb); have n1_ := Aside0.mk (blk_below (g := gb899) (o := .cells #[.int .i64 a0_0, .slice A0_1 l0_1.length c0_1, .slice A0_2 l0_2.length c0_2, .slice A0_3 l0_3.length c0_3] 28 (0, 0)) (by (with_reducible repeat (first | refine blk_drewN ?_ _ | refine blk_drew ?_ | refine blk_alloc ?_ _)); exact BK899.out) hb); have n2_ := Aside0.mk (below_step (by repeat (first | (with_reducible first | exact HB.out | apply below_alloc | apply pw_below_drewN | apply below_drew1 | refine below_set ?_ GE899.out) | exact HB.out)) hb); clear HO_5; clear BK899; clear HB; have HO_5 := n0_; have BK899 := n1_; have HB := n2_; clear n0_ n1_ n2_; (try clear hb); (try clear hb2); (try clear hk); (try clear hi)))
              go_ret
              exact ⟨by first | rfl | (simp [errW_none, errW_some] <;> rfl) | (simp [*, errW_none, errW_some] <;> rfl), by repeat (first | (with_reducible first | exact HB.out | apply below_alloc | apply pw_below_drewN | apply below_drew1 | refine below_set ?_ GE899.out) | exact HB.out)⟩
      · rw [if_neg c10] at H
        exact absurd H (by simp)
    · rw [if_neg c9] at H
      exact absurd H (by simp)
  · replace c8 := Bool.eq_false_iff.mpr c8
    subst c8
    have H1 : (some false) = some r := by rw [if_neg (show ¬ (false = true) by decide)] at H; exact H
    clear H
    have H := H1
    clear H1
    obtain rfl := Option.some.inj H
    go_wp2
    go_ret
    exact ⟨by first | rfl | (simp [errW_none, errW_some] <;> rfl) | (simp [*, errW_none, errW_some] <;> rfl), by repeat (first | (with_reducible first | exact HB.out | apply below_alloc | apply pw_below_drewN | apply below_drew1 | refine below_set ?_ GE899.out) | exact HB.out)⟩

end Go.Proofs.Ythdbijjkcoafiaa.P
